import Derived.Deep.RegionHeld3
import Derived.Deep.AppendLies
import Derived.Deep.RegionLaw
import Derived.Test.YtmfnplmcfkkdpaaGreatDoorZAb
import Derived.Test.YtmfnplmcfkkdpaaGreatDoorZAe
set_option linter.all false
set_option maxRecDepth 100000
set_option maxHeartbeats 0
namespace Go.Proofs.YtmfnplmcfkkdpaaGreatDoor
open Go.RowKit Go.Proofs.Tryz
variable{w w1:World}{b k:Nat}{X:be}{v:Value}{r:Option Nat}
def nb(w:World)(b:Nat)(X:be):Prop:=w.heap[b]?=some (.cells (aD X) 152 (0,0))
theorem nb.lt(h:nb w b X):b<w.heap.size:=(Array.getElem?_eq_some_iff.1 h).1
theorem nb.cell(h:nb w b X)(i:Nat):w.cell? (b,i)=(aD X)[i]?:=cell_of_row w b i _ _ _ h
theorem nb.free(h:nb w b X)(i:Nat):w.frozen? (b,i)=false:=by
 unfold World.frozen?;unfold nb at h;simp only[h];simp
theorem HS{i:Nat}{c:Array Value}{t:TypeId}{f:Nat×Nat}(h:w.heap[b]?=some (.cells c t f)):(w.setCell (b,i) v).heap[b]?=some (.cells (c.setIfInBounds i v) t f):=by
 simp[World.setCell,Array.getElem?_modify,h]
theorem HL{a:Addr}(h:k≠a.block):(w.setCell a v).heap[k]?=w.heap[k]?:=Below.heap_setCell _ _ _ _ h
theorem nb.Gc(h:nb w b X)(n:Int):nb (w.setCell (b,1) (.int .i64 n)) b {X with a:=n}:=HS h
theorem nb.oJ(h:nb w b X)(n:Int):nb (w.setCell (b,2) (.int .i64 n)) b {X with b:=n}:=HS h
theorem nb.wE(h:nb w b X)(n:Int):nb (w.setCell (b,3) (.int .i64 n)) b {X with c:=n}:=HS h
theorem nb.mU(h:nb w b X)(n:Int):nb (w.setCell (b,4) (.int .u64 n)) b {X with v:=n}:=HS h
theorem nb.wF(h:nb w b X)(n:Int):nb (w.setCell (b,5) (.int .i64 n)) b {X with m:=n}:=HS h
theorem nb.AT(h:nb w b X)(n:Int):nb (w.setCell (b,6) (.int .i64 n)) b {X with wh:=n}:=HS h
theorem H7{o:Obj}(h:k<w.heap.size):(w.alloc o).heap[k]?=w.heap[k]?:=Below.heap_alloc w o k h
theorem nb.alloc(h:nb w b X)(o:Obj):nb (w.alloc o) b X:=by
 unfold nb;rw[H7 h.lt];exact h
theorem cf(w:World)(r:Option Nat):w.grownBy w r:=⟨rfl,rfl,rfl,Nat.le_refl _,fun _ _ _=>rfl⟩
theorem ec(h:w.grownBy w1 (some b))(i:Nat)(v:Value):w.grownBy (w1.setCell (b,i) v) (some b):=
 ⟨h.os,h.tape,h.output,by have:=h.size;simp;omega,fun k c a=>by rw[HL (fun e=>a (by rw[e]))];exact h.block k c a⟩
theorem KL{w2:World}(h:w.grownBy w1 r)(g:w1.grownBy w2 r):w.grownBy w2 r:=
 ⟨g.os.trans h.os,g.tape.trans h.tape,g.output.trans h.output,Nat.le_trans h.size g.size,fun k a c=>(g.block k (Nat.lt_of_lt_of_le a h.size) c).trans (h.block k a c)⟩
def pk(r:Except Bool be)(bx:Nat)(line:Int)(w:World)(e:Ending)(w':World):Prop:=
 match r with
 |.ok X=>e=.returned .nilIface/\nb w' bx X/\w.grownBy w' (some bx)
 |.error t=>True
def Bj{α:Type}(r:Except Bool α):Prop:=∃x,r=.ok x
theorem Bj.no{α:Type}{r:Except Bool α}{t:Bool}(h:Bj r)(e:r=.error t):False:=by
 obtain⟨x,h⟩:=h;rw[e]at h;cases h
theorem pk.vB{r:Except Bool be}{bx:Nat}{line:Int}{w':World}(X:be)(h:r=.ok X)(c:nb w' bx X)(a:w.grownBy w' (some bx)):pk r bx line w (.returned .nilIface) w':=by
 subst h;exact⟨rfl,c,a⟩
theorem Jr(s p:ByteArray)(d:s.size<=9223372036854775807)(b:Bool)(h:Lib.hasSuffix s.data.toList p.data.toList=b)(w:World):Calls prog 166 #[.string s,.string p] w (JF b w):=
 (I2 s p w d).mono fun e w' ⟨a,c⟩=>⟨by rw[a,<-h],c.symm⟩
theorem KM{s p:ByteArray}(h:Lib.hasSuffix s.data.toList p.data.toList=true):p.size<=s.size:=by
 unfold Lib.hasSuffix at h;have:=(List.isSuffixOf_iff_suffix.1 h).length_le;simpa using this
def KN:ByteArray:=⟨#[61,48]⟩
def KO:ByteArray:=⟨#[62,48]⟩
def IU(t:ByteArray)(a:Int):Int×ByteArray:=
 if Lib.hasSuffix t.data.toList KN.data.toList then(1,t.extract 0 (t.size-2))
 else if Lib.hasSuffix t.data.toList KO.data.toList then(2,t.extract 0 (t.size-2))
 else(a,t)
def Js(X:be)(a:Int):Except Int Int->Except Bool be
 |.error _=> .error false
 |.ok v=>if v<1∨99<v then .error true else .ok {X with wh:=a,m:=v}
def H4(X:be)(s:ByteArray):Except Bool be:=
 Js X (IU (s.extract 1 s.size) X.wh).1 (vh (IU (s.extract 1 s.size) X.wh).2)
theorem LZ(s:ByteArray)(N:s.size<=65536)(L:1<=s.size)(line:Int)(bx:Nat)(X:be)(w:World)(i:nb w bx X)(n:Bj (H4 X s)):
 Calls prog 120 #[(bx,0),.string s,line] w (pk (H4 X s) bx line w):=by
 have J:w.cell? (bx,5)=some (.int .i64 X.m):=i.cell 5;have K:w.cell? (bx,6)=some (.int .i64 X.wh):=i.cell 6;have f5:=i.free 5;have f6:=i.free 6;have M:=i.lt;have y:=Z i;clear i;have O:(s.extract 1 s.size).size<=65536:=by simp;omega
 have A:Hid (∀t,s.extract 1 s.size=t->H4 X s=Js X (IU t X.wh).1 (vh (IU t X.wh).2)):=by
  intro t h;subst h;rfl
 go_enter func120,ntmps120
 go_wp2_with fail
 generalize H:s.extract 1 s.size=t at*;have l:=Z (A t rfl);clear A H;by_cases f:Lib.hasSuffix t.data.toList KN.data.toList=true
 ·have G:2<=t.size:=KM f
  have c:Hid (H4 X s=Js X 1 (vh (t.extract 0 (t.size-2)))):=by show _=_;rw[l];unfold IU;rw[if_pos f]
  refine(Jr t KN (by omega) true f _).mono ?_;clear f l;rintro e w' ⟨rfl,rfl⟩;go_wp2_with fail
  have x:(t.extract 0 (t.size-2)).size<=maxLen:=by unfold maxLen;simp;omega
  generalize t.extract 0 (t.size-2)=u at*;rcases a:vh u with j|v
  ·exact(n.no (show _=Except.error false from by rw[c,a];rfl)).elim
  ·have q:=Z (Ib u x v a)
   by_cases d:v<1∨99<v
   ·exact(n.no (show _=Except.error true from by rw[c,a];exact if_pos d)).elim
   ·have p:Hid (H4 X s=.ok {X with wh:=1,m:=v}):=by show _=_;rw[c,a];exact if_neg d
    have E:1<=v:=(by omega);have F:v<=99:=(by omega);clear a d;refine(q _ _).mono ?_;rintro e w' ⟨rfl,C,D,rfl⟩;go_wp2
    go_ret;exact pk.vB _ p ((y.AT 1).wF v) (ec (ec (cf w _) _ _) _ _)
 ·have z:Lib.hasSuffix t.data.toList KN.data.toList=false:=by simpa using f
  refine(Jr t KN (by omega) false z _).mono ?_;rintro e w' ⟨rfl,rfl⟩;by_cases g:Lib.hasSuffix t.data.toList KO.data.toList=true
  ·have G:2<=t.size:=KM g
   have c:Hid (H4 X s=Js X 2 (vh (t.extract 0 (t.size-2)))):=(by show _=_;rw[l];unfold IU;rw[if_neg f,if_pos g]);have o:=Z (Jr t KO (by omega) true g);clear f z g l;go_wp2_with fail
   refine(o _).mono ?_;rintro e w' ⟨rfl,rfl⟩;go_wp2_with fail
   have x:(t.extract 0 (t.size-2)).size<=maxLen:=(by unfold maxLen;simp;omega);clear o;generalize t.extract 0 (t.size-2)=u at*;rcases a:vh u with j|v
   ·exact(n.no (show _=Except.error false from by rw[c,a];rfl)).elim
   ·have q:=Z (Ib u x v a)
    by_cases d:v<1∨99<v
    ·exact(n.no (show _=Except.error true from by rw[c,a];exact if_pos d)).elim
    ·have p:Hid (H4 X s=.ok {X with wh:=2,m:=v}):=by show _=_;rw[c,a];exact if_neg d
     have E:1<=v:=(by omega);have F:v<=99:=(by omega);clear a d;refine(q _ _).mono ?_;rintro e w' ⟨rfl,C,D,rfl⟩;go_wp2
     go_ret;exact pk.vB _ p ((y.AT 2).wF v) (ec (ec (cf w _) _ _) _ _)
  ·have B:Lib.hasSuffix t.data.toList KO.data.toList=false:=by simpa using g
   have c:Hid (H4 X s=Js X X.wh (vh t)):=(by show _=_;rw[l];unfold IU;rw[if_neg f,if_neg g]);have o:=Z (Jr t KO (by omega) false B);clear f z g B l;go_wp2_with fail
   refine(o _).mono ?_;rintro e w' ⟨rfl,rfl⟩;go_wp2_with fail
   have x:t.size<=maxLen:=(by unfold maxLen;omega);clear o;obtain⟨u,I⟩:=mn t;subst I;rcases a:vh u with j|v
   ·exact(n.no (show _=Except.error false from by rw[c,a];rfl)).elim
   ·have q:=Z (Ib u x v a)
    by_cases d:v<1∨99<v
    ·exact(n.no (show _=Except.error true from by rw[c,a];exact if_pos d)).elim
    ·have p:Hid (H4 X s=.ok {X with wh:=X.wh,m:=v}):=by show _=_;rw[c,a];exact if_neg d
     have E:1<=v:=(by omega);have F:v<=99:=(by omega);clear a d;refine(q _ _).mono ?_;rintro e w' ⟨rfl,C,D,rfl⟩;go_wp2
     go_ret;exact pk.vB _ p ((y).wF v) (ec (cf w _) _ _)
variable{B:Nat}{w2:World}{l:Value}
def hl(t:ByteArray):Nat->Nat->Nat->List ByteArray
 |0,_,_=>[]
 |f+1,i,a=>
  if i<t.size/\sv t i≠32 then hl t f (i+1) a
  else if a<i then t.extract a i::hl t f (i+1) (i+1)
  else hl t f (i+1) (i+1)
def I3(s:ByteArray):ByteArray:=if 0<=Lib.indexByte s.data.toList 59 then s.extract 0 (Lib.indexByte s.data.toList 59).toNat else s
def H3(s:ByteArray):List ByteArray:=hl (I3 s) ((I3 s).size+1) 0 0
theorem MQ(l:List UInt8)(c:UInt8):Lib.indexByte l c<l.length∨l=[]:=by
 induction l with
 |nil=>exact Or.inr rfl
 |cons b l ih=>
  refine Or.inl ?_;unfold Lib.indexByte;split
  ·simp
  ·split
   ·simp only[List.length_cons];omega
   ·rcases ih with h|h
    ·simp only[List.length_cons];omega
    ·subst h;rename_i a;simp[Lib.indexByte]at a
theorem Nd(l:List UInt8)(c:UInt8):Lib.indexByte l c<=l.length:=by
 rcases MQ l c with h|h
 ·omega
 ·subst h;simp[Lib.indexByte]
theorem Nf:(prog.info? 9).map (fun i=>(i.zero,i.size,i.bytes))=some (some (.string ByteArray.empty),1,16):=by kernel_rfl
theorem IV{wr:World}{o:Obj}{n:Nat}{xs:List Value}(h:Below B w wr)(d:wr.ownsRow B 9 1 l n xs)(b:(wr.alloc o).grownBy w2 l.ownBlock)(a:B<=wr.heap.size:=by omega):Below B w w2:=
 (h.alloc a o).grown b (by simp;omega) (fun k c=>(d.lt k c).1)
theorem Jt{acc:List ByteArray}{x:ByteArray}(h:w2.ownsRow B 9 1 l (acc.length+1) (acc.map Value.string++[.string x])):w2.ownsRow B 9 1 l (acc++[x]).length ((acc++[x]).map Value.string):=by
 simpa using h
def IN(a:List ByteArray)(w:World)(e:Ending)(w':World):Prop:=
 ∃v,e=.returned v/\w'.ownsRow w.heap.size 9 1 v a.length (a.map Value.string)/\Below w.heap.size w w'
theorem IN.mk{a:List ByteArray}{w':World}{v:Value}(acc:List ByteArray)(h:a=acc)(b:w'.ownsRow w.heap.size 9 1 v acc.length (acc.map Value.string))(hb:Below w.heap.size w w'):IN a w (.returned v) w':=by
 subst h;exact⟨v,rfl,b,hb⟩
theorem KP(s:ByteArray)(n:Int)(h:Lib.indexByte s.data.toList 59=n)(w:World):Calls prog 161 #[.string s,.int .u8 59] w (JP .i64 n w):=
 (Iq s 59 w).mono fun e w' ⟨a,b⟩=>⟨by rw[a,<-h];rfl,b.symm⟩
theorem Io(s:ByteArray)(X:s.size<=65536)(w:World):Calls prog 115 #[.string s] w (IN (H3 s) w):=by
 obtain⟨H,C,E,F,G⟩:=info_parts Nf;have T:=Z C;by_cases K:0<=Lib.indexByte s.data.toList 59
 ·obtain⟨n,M⟩:=Int.eq_ofNat_of_zero_le K
  have hle:=Nd s.data.toList 59;have W:n<=s.size:=by rw[M]at hle;have:s.data.toList.length=s.size:=(by simp);omega
  have L:=KP s n M;have I:=Z L;have D:Hid (I3 s=s.extract 0 n):=by show _=_;unfold I3;rw[if_pos K,M];rfl
  go_in
  go_wp2_with (go_at_call 161;refine(I _).mono ?_;rintro e w' ⟨rfl,rfl⟩)
  have S:(s.extract 0 n).size<=s.size:=by simp;omega
  generalize V:s.extract 0 n=t at*;have J:Hid (hl t (t.size+1-0) 0 0=H3 s):=by show _=_;unfold H3;rw[D];rfl
  go_loopw [4,5,6] (fun l at_ i wr=>∃(k a:Nat) (acc:List ByteArray),k<=t.size+1/\a<=k/\at_=.int .i64 a/\i=.int .i64 k/\acc.length<=k/\wr.ownsRow w.heap.size 9 1 l acc.length (acc.map Value.string)/\Below w.heap.size w wr/\Hid (acc++hl t (t.size+1-k) k a=H3 s)) (fun _ _ i _=>t.size+1-(intOf i).toNat)
  case atStart=>exact⟨0,0,[],by omega,by omega,rfl,rfl,by simp,World.ownsRow_nil _ _ _ _,Below.refl _ _,J⟩
  case round=>
   obtain⟨k,a,acc,P,N,rfl,rfl,O,d,f,g⟩:=hrel;have R:=f.size;by_cases m:k<t.size
   ·by_cases A:((t[k].toNat:Int) !=32)=true
    ·have b:Hid (hl t (t.size+1-k) k a=hl t (t.size+1-(k+1)) (k+1) a):=by
      show _=_
      rw[show t.size+1-k=(t.size+1-(k+1))+1 from by omega,hl,if_pos ⟨m,by rw[<-ck t k m];simpa using A⟩]
     go_wp2
     go_roundw
     case rel=>exact⟨k+1,a,acc,by omega,by omega,rfl,by go_num,by omega,d,f,by show _=_;rw[<-b];exact g⟩
     case measure=>simp[intOf];omega
    ·have q:((t[k].toNat:Int) !=32)=false:=by simpa using A
     by_cases o:a<k
     ·have b:Hid (hl t (t.size+1-k) k a=t.extract a k::hl t (t.size+1-(k+1)) (k+1) (k+1)):=by
       show _=_
       rw[show t.size+1-k=(t.size+1-(k+1))+1 from by omega,hl,if_neg (by rw[<-ck t k m];simp at q;simp[q]),if_pos o]
      go_wp2_with (at_builtin;refine wpList_append_own _ rfl _ _ 145 rfl w.heap.size 9 H (.string ByteArray.empty) 1 16 underlying145 C E F G rfl (by decide) _ _ _ rfl (d.alloc _) ⟨wr.heap.size,0,none⟩ 1 1 [.string (t.extract a k)] rfl rfl ?c1A1 ?c2A1 ?c3A1 ?c4A1 ?c5A1 ?_)
      case c1A1=>
       intro j u c
       match j,c with
       |0,c=>simp at c;subst c;simp[Addr.add]
      case c2A1=>first|rfl|(intro u p;simp at p;subst p;rfl)
      case c3A1=>unfold maxLen;omega
      case c4A1=>omega
      case c5A1=>simp;omega
      intro v' w2 x v _;have r:=IV f d v;have y:=Jt x;go_wp2
      go_roundw
      case rel=>exact⟨k+1,k+1,acc++[t.extract a k],by omega,by omega,by go_num,by go_num,by simp;omega,y,r,by show _=_;rw[List.append_assoc,List.singleton_append,<-b];exact g⟩
      case measure=>simp[intOf];omega
     ·have b:Hid (hl t (t.size+1-k) k a=hl t (t.size+1-(k+1)) (k+1) (k+1)):=by
       show _=_
       rw[show t.size+1-k=(t.size+1-(k+1))+1 from by omega,hl,if_neg (by rw[<-ck t k m];simp at q;simp[q]),if_neg o]
      go_wp2
      go_roundw
      case rel=>exact⟨k+1,k+1,acc,by omega,by omega,by go_num,by go_num,by omega,d,f,by show _=_;rw[<-b];exact g⟩
      case measure=>simp[intOf];omega
   ·by_cases hle:k<=t.size
    ·by_cases o:a<k
     ·have b:Hid (hl t (t.size+1-k) k a=t.extract a k::hl t (t.size+1-(k+1)) (k+1) (k+1)):=by
       show _=_
       rw[show t.size+1-k=(t.size+1-(k+1))+1 from by omega,hl,if_neg (by intro h;exact m h.1),if_pos o]
      go_wp2_with (at_builtin;refine wpList_append_own _ rfl _ _ 145 rfl w.heap.size 9 H (.string ByteArray.empty) 1 16 underlying145 C E F G rfl (by decide) _ _ _ rfl (d.alloc _) ⟨wr.heap.size,0,none⟩ 1 1 [.string (t.extract a k)] rfl rfl ?c1A2 ?c2A2 ?c3A2 ?c4A2 ?c5A2 ?_)
      case c1A2=>
       intro j u c
       match j,c with
       |0,c=>simp at c;subst c;simp[Addr.add]
      case c2A2=>first|rfl|(intro u p;simp at p;subst p;rfl)
      case c3A2=>unfold maxLen;omega
      case c4A2=>omega
      case c5A2=>simp;omega
      intro v' w2 x v _;have r:=IV f d v;have y:=Jt x;go_wp2
      go_roundw
      case rel=>exact⟨k+1,k+1,acc++[t.extract a k],by omega,by omega,by go_num,by go_num,by simp;omega,y,r,by show _=_;rw[List.append_assoc,List.singleton_append,<-b];exact g⟩
      case measure=>simp[intOf];omega
     ·have b:Hid (hl t (t.size+1-k) k a=hl t (t.size+1-(k+1)) (k+1) (k+1)):=by
       show _=_
       rw[show t.size+1-k=(t.size+1-(k+1))+1 from by omega,hl,if_neg (by intro h;exact m h.1),if_neg o]
      go_wp2
      go_roundw
      case rel=>exact⟨k+1,k+1,acc,by omega,by omega,by go_num,by go_num,by omega,d,f,by show _=_;rw[<-b];exact g⟩
      case measure=>simp[intOf];omega
    ·have b:Hid (hl t (t.size+1-k) k a=[]):=by
      show _=_
      rw[show t.size+1-k=0 from by omega,hl]
     go_wp2
     go_ret;exact IN.mk acc (by have z:=g.out;rw[b,List.append_nil]at z;exact z.symm) d f
 ·have Q:Lib.indexByte s.data.toList 59=-1:=by have:=Lib.indexByte_ge s.data.toList 59;omega
  have L:=KP s (-1) Q;have I:=Z L;have D:Hid (I3 s=s):=by show _=_;unfold I3;rw[if_neg K]
  go_in
  go_wp2_with (go_at_call 161;refine(I _).mono ?_;rintro e w' ⟨rfl,rfl⟩)
  obtain⟨t,S,U⟩:∃t:ByteArray,t=s/\Hid (I3 s=t):=⟨s,rfl,D⟩;have J:Hid (hl s (s.size+1-0) 0 0=H3 s):=by show _=_;unfold H3;rw[D];rfl
  go_loopw [4,5,6] (fun l at_ i wr=>∃(k a:Nat) (acc:List ByteArray),k<=s.size+1/\a<=k/\at_=.int .i64 a/\i=.int .i64 k/\acc.length<=k/\wr.ownsRow w.heap.size 9 1 l acc.length (acc.map Value.string)/\Below w.heap.size w wr/\Hid (acc++hl s (s.size+1-k) k a=H3 s)) (fun _ _ i _=>s.size+1-(intOf i).toNat)
  case atStart=>exact⟨0,0,[],by omega,by omega,rfl,rfl,by simp,World.ownsRow_nil _ _ _ _,Below.refl _ _,J⟩
  case round=>
   obtain⟨k,a,acc,P,N,rfl,rfl,O,d,f,g⟩:=hrel;have R:=f.size;by_cases m:k<s.size
   ·by_cases A:((s[k].toNat:Int) !=32)=true
    ·have b:Hid (hl s (s.size+1-k) k a=hl s (s.size+1-(k+1)) (k+1) a):=by
      show _=_
      rw[show s.size+1-k=(s.size+1-(k+1))+1 from by omega,hl,if_pos ⟨m,by rw[<-ck s k m];simpa using A⟩]
     go_wp2
     go_roundw
     case rel=>exact⟨k+1,a,acc,by omega,by omega,rfl,by go_num,by omega,d,f,by show _=_;rw[<-b];exact g⟩
     case measure=>simp[intOf];omega
    ·have q:((s[k].toNat:Int) !=32)=false:=by simpa using A
     by_cases o:a<k
     ·have b:Hid (hl s (s.size+1-k) k a=s.extract a k::hl s (s.size+1-(k+1)) (k+1) (k+1)):=by
       show _=_
       rw[show s.size+1-k=(s.size+1-(k+1))+1 from by omega,hl,if_neg (by rw[<-ck s k m];simp at q;simp[q]),if_pos o]
      go_wp2_with (at_builtin;refine wpList_append_own _ rfl _ _ 145 rfl w.heap.size 9 H (.string ByteArray.empty) 1 16 underlying145 C E F G rfl (by decide) _ _ _ rfl (d.alloc _) ⟨wr.heap.size,0,none⟩ 1 1 [.string (s.extract a k)] rfl rfl ?c1B1 ?c2B1 ?c3B1 ?c4B1 ?c5B1 ?_)
      case c1B1=>
       intro j u c
       match j,c with
       |0,c=>simp at c;subst c;simp[Addr.add]
      case c2B1=>first|rfl|(intro u p;simp at p;subst p;rfl)
      case c3B1=>unfold maxLen;omega
      case c4B1=>omega
      case c5B1=>simp;omega
      intro v' w2 x v _;have r:=IV f d v;have y:=Jt x;go_wp2
      go_roundw
      case rel=>exact⟨k+1,k+1,acc++[s.extract a k],by omega,by omega,by go_num,by go_num,by simp;omega,y,r,by show _=_;rw[List.append_assoc,List.singleton_append,<-b];exact g⟩
      case measure=>simp[intOf];omega
     ·have b:Hid (hl s (s.size+1-k) k a=hl s (s.size+1-(k+1)) (k+1) (k+1)):=by
       show _=_
       rw[show s.size+1-k=(s.size+1-(k+1))+1 from by omega,hl,if_neg (by rw[<-ck s k m];simp at q;simp[q]),if_neg o]
      go_wp2
      go_roundw
      case rel=>exact⟨k+1,k+1,acc,by omega,by omega,by go_num,by go_num,by omega,d,f,by show _=_;rw[<-b];exact g⟩
      case measure=>simp[intOf];omega
   ·by_cases hle:k<=s.size
    ·by_cases o:a<k
     ·have b:Hid (hl s (s.size+1-k) k a=s.extract a k::hl s (s.size+1-(k+1)) (k+1) (k+1)):=by
       show _=_
       rw[show s.size+1-k=(s.size+1-(k+1))+1 from by omega,hl,if_neg (by intro h;exact m h.1),if_pos o]
      go_wp2_with (at_builtin;refine wpList_append_own _ rfl _ _ 145 rfl w.heap.size 9 H (.string ByteArray.empty) 1 16 underlying145 C E F G rfl (by decide) _ _ _ rfl (d.alloc _) ⟨wr.heap.size,0,none⟩ 1 1 [.string (s.extract a k)] rfl rfl ?c1B2 ?c2B2 ?c3B2 ?c4B2 ?c5B2 ?_)
      case c1B2=>
       intro j u c
       match j,c with
       |0,c=>simp at c;subst c;simp[Addr.add]
      case c2B2=>first|rfl|(intro u p;simp at p;subst p;rfl)
      case c3B2=>unfold maxLen;omega
      case c4B2=>omega
      case c5B2=>simp;omega
      intro v' w2 x v _;have r:=IV f d v;have y:=Jt x;go_wp2
      go_roundw
      case rel=>exact⟨k+1,k+1,acc++[s.extract a k],by omega,by omega,by go_num,by go_num,by simp;omega,y,r,by show _=_;rw[List.append_assoc,List.singleton_append,<-b];exact g⟩
      case measure=>simp[intOf];omega
     ·have b:Hid (hl s (s.size+1-k) k a=hl s (s.size+1-(k+1)) (k+1) (k+1)):=by
       show _=_
       rw[show s.size+1-k=(s.size+1-(k+1))+1 from by omega,hl,if_neg (by intro h;exact m h.1),if_neg o]
      go_wp2
      go_roundw
      case rel=>exact⟨k+1,k+1,acc,by omega,by omega,by go_num,by go_num,by omega,d,f,by show _=_;rw[<-b];exact g⟩
      case measure=>simp[intOf];omega
    ·have b:Hid (hl s (s.size+1-k) k a=[]):=by
      show _=_
      rw[show s.size+1-k=0 from by omega,hl]
     go_wp2
     go_ret;exact IN.mk acc (by have z:=g.out;rw[b,List.append_nil]at z;exact z.symm) d f
def JM(s:ByteArray):Bool:=decide ((s.size:Int)<2∨sv s 0≠91∨sv s (s.size-1)≠93)
def Jh(X:be):Except Int Int->Except Bool be
 |.ok v=> .ok {X with v:=v}
 |.error _=> .error false
def plusV(t:ByteArray):Int:=Lib.indexByte t.data.toList 43
def Kw(X:be)(t:ByteArray):Except Bool be:=
 if(Iz t).2 then .ok {X with b:=(Iz t).1}
 else if 0<=plusV t then
  (if(Iz (t.extract 0 (plusV t).toNat)).2 then Jh {X with b:=(Iz (t.extract 0 (plusV t).toNat)).1} (vh (t.extract ((plusV t).toNat+1) t.size))else .error true)
 else Jh {X with b:=-1} (vh t)
def H8(X:be)(s:ByteArray):Except Bool be:=
 if JM s then .error true else Kw X (s.extract 1 (s.size-1))
theorem Kh(s:ByteArray)(n:Int)(h:plusV s=n)(w:World):Calls prog 161 #[.string s,.int .u8 43] w (JP .i64 n w):=
 (Iq s 43 w).mono fun e w' ⟨a,b⟩=>⟨by rw[a,<-h];rfl,b.symm⟩
theorem IC(s:ByteArray)(a:s.size<=maxLen)(n:Int)(b:Bool)(h:Iz s=(n,b))(w:World):Calls prog 162 #[.string s] w (Jj .i64 (n,b) w):=by
 rw[<-h];exact Jp s a w
theorem KQ(s:ByteArray)(W:s.size<=65536)(line:Int)(bx:Nat)(X:be)(w:World)(c:nb w bx X)(r:Bj (H8 X s)):
 Calls prog 165 #[(bx,0),.string s,line] w (pk (H8 X s) bx line w):=by
 have S:w.cell? (bx,2)=some (.int .i64 X.b):=c.cell 2;have T:w.cell? (bx,4)=some (.int .u64 X.v):=c.cell 4;have f2:=c.free 2;have f4:=c.free 4;have U:=c.lt;have C:=Z c;clear c;by_cases hb:JM s=true
 ·exact(r.no (show _=Except.error true from by unfold H8;rw[if_pos hb])).elim
 ·have F:Hid (∀t,s.extract 1 (s.size-1)=t->H8 X s=Kw X t):=by
   intro t h;subst h;unfold H8;rw[if_neg hb]
  unfold JM at hb;simp only[decide_eq_true_eq]at hb;have p2:2<=s.size:=by omega
  have a0:0<s.size:=by omega
  have p1:s.size-1<s.size:=by omega
  have K:((s[0].toNat:Int) !=91)=false:=by rw[ck,bne_eq_false_iff_eq];omega
  have L:((s[s.size-1].toNat:Int) !=93)=false:=by rw[ck,bne_eq_false_iff_eq];omega
  clear hb;go_enter func165,ntmps165
  go_wp2_with fail
  have Y:(s.extract 1 (s.size-1)).size<=65536:=by simp;omega
  generalize N:s.extract 1 (s.size-1)=t at*;have B:=Z (F t rfl);clear F N K L;have m:t.size<=maxLen:=by unfold maxLen;omega
  rcases f:Iz t with⟨n,b⟩
  cases b
  ·have p:=Z (IC t m n false f)
   have o:Hid (H8 X s=if 0<=plusV t then
    (if(Iz (t.extract 0 (plusV t).toNat)).2 then Jh {X with b:=(Iz (t.extract 0 (plusV t).toNat)).1} (vh (t.extract ((plusV t).toNat+1) t.size))else .error true)
    else Jh {X with b:=-1} (vh t)):=by
    show _=_;rw[B];unfold Kw;rw[f];rfl
   clear f B;refine(p _).mono ?_;rintro e w' ⟨rfl,rfl⟩;clear p;by_cases k:0<=plusV t
   ·obtain⟨q,l⟩:=Int.eq_ofNat_of_zero_le k
    have V:q<t.size:=by
     rcases MQ t.data.toList 43 with h|h
     ·have:Lib.indexByte t.data.toList 43=q:=l
      rw[this]at h;simp at h;exact h
     ·exfalso;have:Lib.indexByte t.data.toList 43=q:=l
      rw[h]at this;simp[Lib.indexByte]at this
    have g:=Z (Kh t q l);have d:Hid (H8 X s=if(Iz (t.extract 0 q)).2 then Jh {X with b:=(Iz (t.extract 0 q)).1} (vh (t.extract (q+1) t.size))else .error true):=by
     show _=_;rw[o,if_pos k,l];rfl
    clear l k o;go_wp2_with (go_at_call 161;refine(g _).mono ?_;rintro e w' ⟨rfl,rfl⟩)
    clear g;have Q:(t.extract 0 q).size<=maxLen:=(by unfold maxLen;simp;omega);have R:(t.extract (q+1) t.size).size<=maxLen:=(by unfold maxLen;simp;omega);generalize O:t.extract 0 q=y at*;generalize H:t.extract (q+1) t.size=z at*;clear O;rcases u:Iz y with⟨x,G⟩
    have E:=Z (IC y Q x G u);cases G
    ·exact(r.no (show _=Except.error true from by rw[d,u];rfl)).elim
    ·have D:Hid (H8 X s=Jh {X with b:=x} (vh z)):=by show _=_;rw[d,u];rfl
     clear u d;have J:=Z H;clear H;refine(E _).mono ?_;rintro e w' ⟨rfl,rfl⟩;clear E;go_wp2_with fail
     rw[J];have m:=R;rcases a:vh z with j|v
     ·exact(r.no (show _=Except.error false from by rw[D,a];rfl)).elim
     ·have i:Hid (H8 X s=.ok {({X with b:=x}:be)with v:=v}):=by show _=_;rw[D,a];rfl
      have A:=Z (Ib z m v a);clear a;refine(A _ _).mono ?_;rintro e w' ⟨rfl,M,P,rfl⟩;go_wp2
      go_ret;exact pk.vB _ i (((C.oJ (-1)).oJ x).mU v) (ec (ec (ec (cf w _) _ _) _ _) _ _)
   ·have I:plusV t=-1:=by have:=Lib.indexByte_ge t.data.toList 43;unfold plusV at*;omega
    have g:=Z (Kh t (-1) I);have d:Hid (H8 X s=Jh {X with b:=-1} (vh t)):=by
     show _=_;rw[o,if_neg k]
    clear I k o;go_wp2_with (go_at_call 161;refine(g _).mono ?_;rintro e w' ⟨rfl,rfl⟩)
    clear g;rcases a:vh t with j|v
    ·exact(r.no (show _=Except.error false from by rw[d,a];rfl)).elim
    ·have i:Hid (H8 X s=.ok {({X with b:=-1}:be)with v:=v}):=by show _=_;rw[d,a];rfl
     have A:=Z (Ib t m v a);clear a;refine(A _ _).mono ?_;rintro e w' ⟨rfl,M,P,rfl⟩;go_wp2
     go_ret;exact pk.vB _ i ((C.oJ (-1)).mU v) (ec (ec (cf w _) _ _) _ _)
  ·have p:=Z (IC t m n true f)
   have i:Hid (H8 X s=.ok {X with b:=n}):=(by show _=_;rw[B];unfold Kw;rw[f];rfl);clear f;refine(p _).mono ?_;rintro e w' ⟨rfl,rfl⟩;go_wp2
   go_ret;exact pk.vB _ i (C.oJ n) (ec (cf w _) _ _)
variable{w':World}{bx n p:Nat}{e:TypeId}{xs:List Value}
structure w3 where
 code:List be
 labels:List (ByteArray×Int)
 lines:List Int
 bu:List (Int×Int×ByteArray)
def HV(l:List (ByteArray×Int)):List Value:=l.flatMap fun b=>[.string b.1,.int .i64 b.2]
def Ig(l:List Int):List Value:=l.map (Value.int .i64)
def HP(l:List (Int×Int×ByteArray)):List Value:=l.flatMap fun x=>[.int .i64 x.1,.int .i64 x.2.1,.string x.2.2]
def HM(l:List (ByteArray×Int)):Array MapEntry:=(l.zipIdx.map fun x=>({key:=.string x.1.1,val:=.int .i64 x.2,born:=x.2}:MapEntry)).toArray
def HQ(w:World)(B p bx:Nat)(st:w3):Prop:=
 ∃vl vb vn vw bm,w.heap[p]?=some (.cells #[vl,vb,vn,.map (some bm),vw] 179 (0,0))/\B<=p/\
  w.ownsRow B 152 7 vl st.code.length (b4 st.code)/\vl.ownBlock≠some bx/\
  w.ownsRow B 184 2 vb st.labels.length (HV st.labels)/\
  w.ownsRow B 3 1 vn st.lines.length (Ig st.lines)/\
  w.ownsRow B 183 3 vw st.bu.length (HP st.bu)/\
  B<=bm/\w.heap[bm]?=some (.map (HM st.labels) st.labels.length)
def H9(w w':World):Prop:=
 ∀(k:Nat) (c:Array Value) (t:TypeId) (f:Nat×Nat),(t=9∨t=187∨t=259)->w.heap[k]?=some (.cells c t f)->w'.heap[k]?=some (.cells c t f)
theorem H9.refl(w:World):H9 w w:=fun _ _ _ _ _ h=>h
theorem H9.trans{a b c:World}(h:H9 a b)(g:H9 b c):H9 a c:=fun k x t f d i=>g k x t f d (h k x t f d i)
theorem tw{size:Nat}(h:w.ownsRow B e size v n xs){c:Array Value}{t:TypeId}{f:Nat×Nat}(a:w.heap[k]?=some (.cells c t f))(j:t≠e):v.ownBlock≠some k:=by
 rcases h.2 with⟨rfl,_⟩|⟨g,cap,cur,rfl,_,d,_⟩
 ·simp[Value.ownBlock]
 ·intro i
  have:g=k:=by simpa[Value.ownBlock]using i
  subst this;rw[d]at a;injection a with a
  injection a with _ b _
  exact j b.symm
theorem Jb{size:Nat}(h:w.ownsRow B e size v n xs){c:Array MapEntry}{t:Nat}(a:w.heap[k]?=some (.map c t)):v.ownBlock≠some k:=by
 rcases h.2 with⟨rfl,_⟩|⟨g,cap,cur,rfl,_,b,_⟩
 ·simp[Value.ownBlock]
 ·intro d
  have:g=k:=by simpa[Value.ownBlock]using d
  subst this;rw[b]at a;injection a with a
  cases a
theorem JV{r:Option Nat}(g:w.grownBy w' r)(i:∀b,r=some b->∀c t f,w.heap[b]?=some (.cells c t f)->t≠9/\t≠187/\t≠259):H9 w w':=by
 intro k c t f j d;rw[g.block k (Array.getElem?_eq_some_iff.1 d).1 (fun e=>by
  have a:=i k e.symm c t f d;rcases j with h|h|h
  ·exact a.1 h
  ·exact a.2.1 h
  ·exact a.2.2 h)]
 exact d
theorem HQ.grown{st:w3}(h:HQ w B p bx st)(a:nb w bx X)(b:w.grownBy w' (some bx)):HQ w' B p bx st:=by
 obtain⟨vl,vb,vn,vw,bm,d,l,o,g,hb,f,i,m,c⟩:=h;refine⟨vl,vb,vn,vw,bm,?_,l,o.kept b (Or.inr g),g,hb.kept b (Or.inr (tw hb a (by decide))),f.kept b (Or.inr (tw f a (by decide))),i.kept b (Or.inr (tw i a (by decide))),m,?_⟩
 ·rw[b.block p (Array.getElem?_eq_some_iff.1 d).1 (fun e=>by
   injection e with e;subst e;unfold nb at a;rw[d]at a;injection a with a;injection a with _ j _;exact absurd j (by decide))]
  exact d
 ·rw[b.block bm (Array.getElem?_eq_some_iff.1 c).1 (fun e=>by
   injection e with e;subst e;unfold nb at a;rw[c]at a;injection a with a;cases a)]
  exact c
theorem Ki(a:nb w bx X)(g:w.grownBy w' (some bx)):H9 w w':=
 JV g fun b e c t f hb=>by
  injection e with e;subst e;unfold nb at a;rw[a]at hb;injection hb with hb;injection hb with _ d _;subst d;decide
theorem Jc(b:B<=bx)(d:bx<w.heap.size)(a:w.grownBy w' (some bx)):Below B w w':=
 ⟨a.os,a.tape,a.output,a.size,fun k c=>a.block k (by omega) (fun e=>by injection e with e;omega)⟩
def qu(X:be)(kind n:Int):be:=if kind=1 then {X with a:=n}else if kind=2∨kind=5 then {X with b:=n}else {X with c:=n}
def HN(X:be)(kind:Int)(s:ByteArray):Except Bool be:=
 if kind=6 then H8 X s
 else if kind<=5/\(Iz s).2 then .ok (qu X kind (Iz s).1)
 else if kind<=3 then .error true
 else Jh (if kind=5 then {X with b:=-1}else if kind=4 then {X with c:=-1}else X) (vh s)
def JW(st:w3):Except Bool be->Except Bool (w3×be)
 |.ok a=> .ok (st,a)
 |.error t=> .error t
def IP(st:w3)(X:be)(kind:Int)(s:ByteArray)(line:Int):Except Bool (w3×be):=
 if 8<=kind/\Iy s then .ok ({st with bu:=st.bu++[((st.code.length:Int),line,s)]},X)
 else if kind=8 then .error true
 else JW st (HN X kind s)
def Ie(r:Except Bool (w3×be))(B p bx:Nat)(line:Int)(w:World)(e:Ending)(w':World):Prop:=
 match r with
 |.ok (st,X)=>e=.returned .nilIface/\HQ w' B p bx st/\nb w' bx X/\Below B w w'/\H9 w w'
 |.error t=>True
theorem Ie.of{r:Except Bool be}{r':Except Bool (w3×be)}{st:w3}{line:Int}{e:Ending}
 (h:pk r bx line w e w') (c:r'=JW st r) (d:HQ w B p bx st) (a:nb w bx X) (b:B<=bx):Ie r' B p bx line w e w':=by
 subst c;cases r with
 |ok f=>exact⟨h.1,d.grown a h.2.2,h.2.1,Jc b a.lt h.2.2,Ki a h.2.2⟩
 |error t=>exact trivial
theorem L0(s:ByteArray)(t:s.size<=65536)(kind line:Int)(k:kind=1∨kind=2∨kind=3)(m bx:Nat)(X:be)(w:World)(d:nb w bx X)(j:Bj (HN X kind s)):
 Calls prog 119 #[(m,0),(bx,0),kind,.string s,line] w (pk (HN X kind s) bx line w):=by
 have o:w.cell? (bx,1)=some (.int .i64 X.a):=d.cell 1;have p:w.cell? (bx,2)=some (.int .i64 X.b):=d.cell 2;have q:w.cell? (bx,3)=some (.int .i64 X.c):=d.cell 3;have f1:=d.free 1;have f2:=d.free 2;have f3:=d.free 3;have r:=d.lt;have i:=Z d;have l:s.size<=maxLen:=by unfold maxLen;omega
 rcases f:Iz s with⟨n,b⟩
 have h:=Z (IC s l n b f);cases b
 ·rcases k with rfl|rfl|rfl
  ·exact(j.no (show _=Except.error true from by unfold HN;rw[f];rfl)).elim
  ·exact(j.no (show _=Except.error true from by unfold HN;rw[f];rfl)).elim
  ·exact(j.no (show _=Except.error true from by unfold HN;rw[f];rfl)).elim
 ·rcases k with rfl|rfl|rfl
  ·have g:Hid (HN X 1 s=.ok {X with a:=n}):=by show _=_;unfold HN;rw[f];rfl
   go_in
   go_wp2_with (go_at_call 162;refine(h _).mono ?_;rintro e w' ⟨rfl,rfl⟩)
   go_ret;exact pk.vB _ g (i.Gc n) (ec (cf w _) _ _)
  ·have g:Hid (HN X 2 s=.ok {X with b:=n}):=by show _=_;unfold HN;rw[f];rfl
   go_in
   go_wp2_with (go_at_call 162;refine(h _).mono ?_;rintro e w' ⟨rfl,rfl⟩)
   go_ret;exact pk.vB _ g (i.oJ n) (ec (cf w _) _ _)
  ·have g:Hid (HN X 3 s=.ok {X with c:=n}):=by show _=_;unfold HN;rw[f];rfl
   go_in
   go_wp2_with (go_at_call 162;refine(h _).mono ?_;rintro e w' ⟨rfl,rfl⟩)
   go_ret;exact pk.vB _ g (i.wE n) (ec (cf w _) _ _)
theorem L1(s:ByteArray)(B:s.size<=65536)(kind line:Int)(A:kind=4∨kind=5∨kind=7∨kind=6)(C bx:Nat)(X:be)(w:World)(g:nb w bx X)(m:Bj (HN X kind s)):
 Calls prog 119 #[(C,0),(bx,0),kind,.string s,line] w (pk (HN X kind s) bx line w):=by
 have D:w.cell? (bx,2)=some (.int .i64 X.b):=g.cell 2;have E:w.cell? (bx,3)=some (.int .i64 X.c):=g.cell 3;have F:w.cell? (bx,4)=some (.int .u64 X.v):=g.cell 4;have f2:=g.free 2;have f3:=g.free 3;have f4:=g.free 4;have G:=g.lt;have i:=Z g;have o:s.size<=maxLen:=by unfold maxLen;omega
 rcases f:Iz s with⟨n,b⟩
 have h:=Z (IC s o n b f);rcases A with rfl|rfl|rfl|rfl
 ·cases b
  ·rcases d:vh s with j|v
   ·exact(m.no (show _=Except.error false from by unfold HN;rw[f,d];rfl)).elim
   ·have a:Hid (HN X 4 s=.ok {({X with c:=-1}:be)with v:=v}):=by show _=_;unfold HN;rw[f,d];rfl
    have k:=Z (Ib s o v d);go_in
    go_wp2_with (first|(go_at_call 162;refine(h _).mono ?_;rintro e w' ⟨rfl,rfl⟩)|(go_at_call 164;refine(k _ _).mono ?_;rintro e w' ⟨rfl,q,r,rfl⟩))
    go_ret;exact pk.vB _ a ((i.wE (-1)).mU v) (ec (ec (cf w _) _ _) _ _)
  ·have a:Hid (HN X 4 s=.ok {X with c:=n}):=by show _=_;unfold HN;rw[f];rfl
   go_in
   go_wp2_with (go_at_call 162;refine(h _).mono ?_;rintro e w' ⟨rfl,rfl⟩)
   go_ret;exact pk.vB _ a (i.wE n) (ec (cf w _) _ _)
 ·cases b
  ·rcases d:vh s with j|v
   ·exact(m.no (show _=Except.error false from by unfold HN;rw[f,d];rfl)).elim
   ·have a:Hid (HN X 5 s=.ok {({X with b:=-1}:be)with v:=v}):=by show _=_;unfold HN;rw[f,d];rfl
    have k:=Z (Ib s o v d);go_in
    go_wp2_with (first|(go_at_call 162;refine(h _).mono ?_;rintro e w' ⟨rfl,rfl⟩)|(go_at_call 164;refine(k _ _).mono ?_;rintro e w' ⟨rfl,q,r,rfl⟩))
    go_ret;exact pk.vB _ a ((i.oJ (-1)).mU v) (ec (ec (cf w _) _ _) _ _)
  ·have a:Hid (HN X 5 s=.ok {X with b:=n}):=by show _=_;unfold HN;rw[f];rfl
   go_in
   go_wp2_with (go_at_call 162;refine(h _).mono ?_;rintro e w' ⟨rfl,rfl⟩)
   go_ret;exact pk.vB _ a (i.oJ n) (ec (cf w _) _ _)
 ·rcases d:vh s with j|v
  ·exact(m.no (show _=Except.error false from by unfold HN;rw[f,d];rfl)).elim
  ·have a:Hid (HN X 7 s=.ok {X with v:=v}):=by show _=_;unfold HN;rw[f,d];rfl
   have k:=Z (Ib s o v d);go_in
   go_wp2_with (first|(go_at_call 162;refine(h _).mono ?_;rintro e w' ⟨rfl,rfl⟩)|(go_at_call 164;refine(k _ _).mono ?_;rintro e w' ⟨rfl,q,r,rfl⟩))
   go_ret;exact pk.vB _ a ((i).mU v) (ec (cf w _) _ _)
 ·have a:Hid (HN X 6 s=H8 X s):=by show _=_;unfold HN;rfl
  rcases l:H8 X s with t|p
  ·exact(m.no (a.trans l)).elim
  ·have u:=Z (show Calls prog 165 #[(bx,0),.string s,line] w (pk (.ok p) bx line w)from l▸KQ s B line bx X w i ⟨_,l⟩)
   have x:Hid (HN X 6 s=.ok p):=a.trans l;go_in
   go_wp2_with (first|(go_at_call 162;refine(h _).mono ?_;rintro e w' ⟨rfl,rfl⟩)|(go_at_call 165;refine u.mono ?_;rintro e w' ⟨rfl,y,z⟩))
   go_ret;rw[x];exact⟨rfl,y,z⟩
variable{i j:Nat}{t:TypeId}{u v':Value}
theorem MZ:(prog.info? 183).map (fun i=>(i.zero,i.size,i.bytes))=some (some (.agg #[.int .i64 0,.int .i64 0,.string ByteArray.empty]),3,32):=by kernel_rfl
theorem H2{size:Nat}(h:w.ownsRow B e size v n xs):∃a c,v=.slice a n c:=by
 rcases h.2 with⟨rfl,rfl⟩|⟨g,cap,cur,rfl,_⟩
 ·exact⟨_,_,rfl⟩
 ·exact⟨_,_,rfl⟩
theorem IW(s:ByteArray)(a:s.size<=maxLen)(b:Bool)(h:Iy s=b)(w:World):Calls prog 116 #[.string s] w (JF b w):=by rw[<-h];exact LB s a w
theorem sb{c:Array Value}(h:w.heap[b]?=some (.cells c t (0,0))):w.cell? (b,i)=c[i]?:=cell_of_row w b i _ _ _ h
theorem Jd{c:Array Value}(h:w.heap[b]?=some (.cells c t (0,0))):w.frozen? (b,i)=false:=by
 unfold World.frozen?;simp only[h];simp
theorem H5{c:Nat}{a:TypeId}{size m:Nat}{l:Nat}{o:List Value}(h:w.ownsRow B e size v n xs)(d:w.ownsRow c a m v' l o)(k:e≠a):v.ownBlock=none∨v.ownBlock≠v'.ownBlock:=by
 rcases h.2 with⟨rfl,_⟩|⟨g,cap,cur,rfl,_,f,_⟩
 ·exact Or.inl rfl
 ·refine Or.inr fun heq=> ?_
  have:=tw d f k;exact this heq.symm
theorem H6{size:Nat}{c:Array Value}{f:Nat×Nat}
 (h:w.ownsRow B e size v n xs) (a:w.grownBy w1 r) (d:v.ownBlock=none∨v.ownBlock≠r) (k:w1.heap[p]?=some (.cells c 179 f)) (g:e≠179):
 (w1.setCell (p,j) u).ownsRow B e size v n xs:=
 ownsRow_setCell_other (h.kept a d) (tw (h.kept a d) k (Ne.symm g)) u
theorem JN{size:Nat}{c:Array Value}{f:Nat×Nat}
 (h:w1.ownsRow B e size v n xs) (d:w1.heap[p]?=some (.cells c 179 f)) (a:e≠179):(w1.setCell (p,j) u).ownsRow B e size v n xs:=
 ownsRow_setCell_other h (tw h d (Ne.symm a)) u
theorem HO{o:Obj}(h:(w.alloc o).grownBy w1 r):w.grownBy w1 r:=
 KL (World.grownBy_alloc w o r) h
theorem HW(h:w.drew.grownBy w1 r):w.grownBy w1 r:=⟨h.os,h.tape,h.output,h.size,h.block⟩
theorem II(a:w.grownBy w1 r)(c:∀k,r=some k->B<=k)(d:B<=p)(g:p<w.heap.size):Below B w (w1.setCell (p,j) u):=
 ⟨a.os,a.tape,a.output,by have:=a.size;simp;omega,fun k f=>by
  rw[HL (by simp;omega)];exact a.block k (by omega) (fun e=>by have:=c k e.symm;omega)⟩
theorem IX{c:Array Value}{f:Nat×Nat}(q:w.heap[p]?=some (.cells c 179 f))(m:w.grownBy w1 r)
 (s:∀b,r=some b->∀c t f,w.heap[b]?=some (.cells c t f)->t≠9/\t≠187/\t≠259):H9 w (w1.setCell (p,j) u):=by
 intro k g t f' d a;have o:k≠p:=by
  intro e;subst e;rw[q]at a;injection a with a;injection a with _ l _
  subst l;rcases d with h|h|h<;>exact absurd h (by decide)
 rw[HL (by simpa using o)];exact JV m s k g t f' d a
theorem Je{size:Nat}(h:w.ownsRow B e size v n xs)(d:e≠9/\e≠187/\e≠259):
 ∀b,v.ownBlock=some b->∀c t f,w.heap[b]?=some (.cells c t f)->t≠9/\t≠187/\t≠259:=by
 intro b hb c t f g;by_cases a:t=e
 ·subst a;exact d
 ·exact absurd hb (tw h g a)
theorem Lu{bx:Nat}{st:w3}{X:be}{vl vb vn vw:Value}{bm:Nat}{y:Int×Int×ByteArray}
 (a:w.heap[p]?=some (.cells #[vl,vb,vn,.map (some bm),vw] 179 (0,0))) (l:B<=p) (m:w.ownsRow B 152 7 vl st.code.length (b4 st.code)) (A:vl.ownBlock≠some bx)
 (hb:w.ownsRow B 184 2 vb st.labels.length (HV st.labels)) (o:w.ownsRow B 3 1 vn st.lines.length (Ig st.lines)) (d:w.ownsRow B 183 3 vw st.bu.length (HP st.bu))
 (x:B<=bm) (h:w.heap[bm]?=some (.map (HM st.labels) st.labels.length)) (g:nb w bx X) (G:B<=bx)
 (C:w1.ownsRow B 183 3 v' (st.bu.length+1) (HP st.bu++[.int .i64 y.1,.int .i64 y.2.1,.string y.2.2])) (c:w.grownBy w1 vw.ownBlock):
 HQ (w1.setCell (p,4) v') B p bx {st with bu:=st.bu++[y]}/\nb (w1.setCell (p,4) v') bx X/\Below B w (w1.setCell (p,4) v')/\H9 w (w1.setCell (p,4) v'):=by
 have q:p<w.heap.size:=(Array.getElem?_eq_some_iff.1 a).1;have F:vw.ownBlock≠some p:=tw d a (by decide);have f:w1.heap[p]?=some (.cells #[vl,vb,vn,.map (some bm),vw] 179 (0,0)):=by rw[c.block p q (Ne.symm F)];exact a
 have E:bx≠p:=by
  intro e;subst e;unfold nb at g;rw[g]at a;injection a with a;injection a with _ s _;exact absurd s (by decide)
 have D:bm≠p:=by
  intro e;subst e;rw[h]at a;injection a with a;cases a
 refine⟨⟨vl,vb,vn,v',bm,?_,l,H6 m c (H5 m d (by decide)) f (by decide),A,H6 hb c (H5 hb d (by decide)) f (by decide),H6 o c (H5 o d (by decide)) f (by decide),?_,x,?_⟩,?_,?_,?_⟩
 ·exact HS f
 ·have:=JN (j:=4) (u:=v') C f (by decide)
  simpa[HP]using this
 ·rw[HL (by simpa using D),c.block bm (Array.getElem?_eq_some_iff.1 h).1 (Ne.symm (Jb d h))];exact h
 ·unfold nb
  rw[HL (by simpa using E),c.block bx g.lt (Ne.symm (tw d g (by decide)))];exact g
 ·exact II c (fun k z=>(d.lt k z).1) l q
 ·exact IX a c (Je d (by decide))
theorem LC(s:ByteArray)(am:s.size<=65536)(kind line:Int)(a0:kind=8∨kind=9)(a3:Iy s=true)(B p bx:Nat)(st:w3)(X:be)(w:World)
 (ad:nb w bx X) (ab:HQ w B p bx st) (J:B<=bx) (hlen:st.bu.length<=1048576):
 Calls prog 119 #[(p,0),(bx,0),kind,.string s,line] w
  (Ie (.ok ({st with bu:=st.bu++[((st.code.length:Int),line,s)]},X)) B p bx line w):=by
 obtain⟨R,Y,O,P,Q⟩:=info_parts MZ;obtain⟨vl,vb,vn,vw,bm,c,K,M,a4,hb,a5,d,L,a2⟩:=ab;obtain⟨T,U,rfl⟩:=H2 M;have ap:w.cell? (p,0)=some (.slice T st.code.length U):=sb c;have S:w.cell? (p,4)=some vw:=sb c;have I:w.frozen? (p,4)=false:=Jd c;have g:p<w.heap.size:=(Array.getElem?_eq_some_iff.1 c).1;have h:vw.ownBlock≠some p:=tw d c (by decide);have N:s.size<=maxLen:=by unfold maxLen;omega
 rcases a9:Iz s with⟨n,b⟩
 have G:=Z (IC s N n b a9);have C:=Z (IW s N true a3);have F:=Z c;have z:=Z M;have D:=Z a4;have q:=Z hb;have E:=Z a5;have A:=Z a2;have H:=Z ad;have x:=Z Y;rcases a0 with rfl|rfl
 ·go_in
  go_wp2_with (first|(go_at_call 162;refine(G _).mono ?_;rintro e w' ⟨rfl,rfl⟩)|(go_at_call 116;refine(C _).mono ?_;rintro e w' ⟨rfl,rfl⟩))
  go_region_law (first|(refine step_append_lies _ (by rfl) _ _ _ (by rfl) B 183 R _ 3 32 underlying177 x O P Q rfl (by omega) vw st.bu.length (HP st.bu) (by rfl) ((d.alloc _).drew) ⟨w.heap.size,0,none⟩ 1 1 [.int .i64 st.code.length,line,.string s] (by rfl) (by rfl) (World.news_of_block (cs:=#[.int .i64 st.code.length,line,.string s]) (t:=183) (fr:=(0,0)) (heap_alloc_new w _)) (by simp[Value.oneCell']) (by omega) (by unfold maxLen;omega) (by omega) (by simp;omega) (w.heap.size+1) (by simp) ?_;intro V cap w1 k a W a1;have f:w1.cell? (p,4)=some vw:=(a.cell_far ⟨p,4,none⟩ (by simp;omega) (Ne.symm h)).trans (by simp[go_sem,World.cell?_alloc_past,g,S]);have al:w1.frozen? (p,4)=false:=(a.frozen_far ⟨p,4,none⟩ (by simp;omega) (Ne.symm h)).trans (by simp[go_sem,World.frozen?_alloc_past,g,I])))
  all_goals
   go_wp2
   go_ret;obtain⟨l,m,o,f⟩:=Lu (y:=((st.code.length:Int),line,s)) F K z D q E d L A H J (by simpa using k) (HO (HW a));exact⟨rfl,l,m,o,f⟩
 ·go_in
  go_wp2_with (first|(go_at_call 162;refine(G _).mono ?_;rintro e w' ⟨rfl,rfl⟩)|(go_at_call 116;refine(C _).mono ?_;rintro e w' ⟨rfl,rfl⟩))
  go_region_law (first|(refine step_append_lies _ (by rfl) _ _ _ (by rfl) B 183 R _ 3 32 underlying177 x O P Q rfl (by omega) vw st.bu.length (HP st.bu) (by rfl) ((d.alloc _).drew) ⟨w.heap.size,0,none⟩ 1 1 [.int .i64 st.code.length,line,.string s] (by rfl) (by rfl) (World.news_of_block (cs:=#[.int .i64 st.code.length,line,.string s]) (t:=183) (fr:=(0,0)) (heap_alloc_new w _)) (by simp[Value.oneCell']) (by omega) (by unfold maxLen;omega) (by omega) (by simp;omega) (w.heap.size+1) (by simp) ?_;intro V cap w1 k a W a1;have f:w1.cell? (p,4)=some vw:=(a.cell_far ⟨p,4,none⟩ (by simp;omega) (Ne.symm h)).trans (by simp[go_sem,World.cell?_alloc_past,g,S]);have al:w1.frozen? (p,4)=false:=(a.frozen_far ⟨p,4,none⟩ (by simp;omega) (Ne.symm h)).trans (by simp[go_sem,World.frozen?_alloc_past,g,I])))
  all_goals
   go_wp2
   go_ret;obtain⟨l,m,o,f⟩:=Lu (y:=((st.code.length:Int),line,s)) F K z D q E d L A H J (by simpa using k) (HO (HW a));exact⟨rfl,l,m,o,f⟩
theorem LD(s:ByteArray)(t:s.size<=65536)(line:Int)(k:Iy s=false)(o bx:Nat)(X:be)(w:World)(a:nb w bx X)(l:Bj (Jh X (vh s))):
 Calls prog 119 #[(o,0),(bx,0),.int .i64 9,.string s,line] w
  (pk (Jh X (vh s)) bx line w):=by
 have p:w.cell? (bx,4)=some (.int .u64 X.v):=a.cell 4;have f4:=a.free 4;have r:=a.lt;have i:=Z a;have c:s.size<=maxLen:=by unfold maxLen;omega
 rcases m:Iz s with⟨n,b⟩
 have h:=Z (IC s c n b m);have f:=Z (IW s c false k);rcases d:vh s with j|v
 ·exact(l.no (show _=Except.error false from by rw[d];rfl)).elim
 ·have g:=Z (Ib s c v d)
  go_in
  go_wp2_with (first|(go_at_call 162;refine(h _).mono ?_;rintro e w' ⟨rfl,rfl⟩)|(go_at_call 116;refine(f _).mono ?_;rintro e w' ⟨rfl,rfl⟩)|(go_at_call 164;refine(g _ _).mono ?_;rintro e w' ⟨rfl,q,u,rfl⟩))
  go_ret;exact pk.vB _ rfl (i.mU v) (ec (cf w _) _ _)
theorem Bu{st:w3}{r:Except Bool be}{x:w3×be}(h:JW st r=.ok x):Bj r:=by
 cases r with
 |ok y=>exact⟨y,rfl⟩
 |error t=>cases h
theorem qB(s:ByteArray)(i:s.size<=65536)(kind line:Int)(r:1<=kind)(t:kind<=9)(B p bx:Nat)(st:w3)(X:be)(w:World)
 (a:nb w bx X) (g:HQ w B p bx st) (d:B<=bx) (hlen:st.bu.length<=1048576) {k:w3} {j:be} (c:IP st X kind s line=.ok (k,j)):
 Calls prog 119 #[(p,0),(bx,0),kind,.string s,line] w
  (Ie (.ok (k,j)) B p bx line w):=by
 rw[<-c];by_cases b:8<=kind/\Iy s=true
 ·have e:IP st X kind s line=.ok ({st with bu:=st.bu++[((st.code.length:Int),line,s)]},X):=by
   unfold IP;rw[if_pos b]
  rw[e];exact LC s i kind line (by omega) b.2 B p bx st X w a g d hlen
 ·have o:kind≠8:=fun h=>by
   unfold IP at c;rw[if_neg b,if_pos h]at c;cases c
  have e:IP st X kind s line=JW st (HN X kind s):=by
   unfold IP;rw[if_neg b,if_neg o]
  have f:=Bu (e.symm.trans c);by_cases m:kind=9
  ·subst m
   have n:Iy s=false:=(by simpa using b);have l:HN X 9 s=Jh X (vh s):=by
    unfold HN;rw[if_neg (by omega),if_neg (by omega),if_neg (by omega),if_neg (by omega),if_neg (by omega)]
   rw[l]at f e;exact(LD s i line n p bx X w a f).mono fun _ w' h=>Ie.of h e g a d
  by_cases q:kind<=3
  ·exact(L0 s i kind line (by omega) p bx X w a f).mono fun _ w' h=>Ie.of h e g a d
  ·exact(L1 s i kind line (by omega) p bx X w a f).mono fun _ w' h=>Ie.of h e g a d
