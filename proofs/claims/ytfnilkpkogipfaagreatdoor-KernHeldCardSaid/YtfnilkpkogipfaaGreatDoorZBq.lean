import Derived.Test.YtfnilkpkogipfaaGreatDoorZBp
set_option linter.all false
set_option maxRecDepth 100000
set_option maxHeartbeats 8000000
namespace Go.Proofs.YtfnilkpkogipfaaGreatDoor
open Go.RowKit Go.Proofs.Tryz
def qJ:Operand->List ByteArray
 |.const (.string s)=>[s]
 |_=>[]
def Dr:Op->List ByteArray
 |.buildSlice _ _ a=>a.toList.flatMap fun x=>qJ x.2
 |.call c=>c.args.toList.flatMap qJ
 |.binOp _ _ _ b _=>qJ b
 |_=>[]
def gp:Code->List ByteArray
 |.seq a b=>gp a++gp b
 |.region _ ops _=>ops.toList.flatMap fun c=>Dr c.op
 |_=>[]
set_option maxRecDepth 1000000 in
theorem zX:∃l:List ByteArray,l.length=10/\l=(Tryz.f44.body.map gp).getD []/\(∀x∈l,x.size<=20000)/\
 ∀w,Calls prog 44 #[.int .i64 16] w (fun e w'=>e=.returned (.string (((ByteArray.empty++l.getD 0 ByteArray.empty)++l.getD 1 ByteArray.empty)++l.getD 2 ByteArray.empty))/\Ch ag w w'):=by
 have hlen:((Tryz.f44.body.map gp).getD []).length=10:=by kernel_rfl
 have f:((Tryz.f44.body.map gp).getD []).all (fun x=>decide (x.size<=20000))=true:=by kernel_rfl
 refine⟨(Tryz.f44.body.map gp).getD [],hlen,rfl,fun x d=>of_decide_eq_true (List.all_eq_true.1 f x d),fun w=> ?_⟩;obtain⟨a,h⟩:=nm ((Tryz.f44.body.map gp).getD []);rw[h]at hlen f⊢;have B:=Z h;have y:=Z hlen;have v:=Z (fun x (d:x∈a)=>(of_decide_eq_true (List.all_eq_true.1 f x d):x.size<=20000));clear h hlen f;go_enter func44,ntmps44
 go_upto_block 0 with fail
 generalize m:World.alloc w _=w1;obtain⟨r,j⟩:=nm w.heap.size;have z:Hid (Row w1 r 9 (a.map Value.string)):=Z (by
  rw[<-B,<-m,<-j];exact Row.new w _ _)
 have u:=Z (Ch.al (D:=ag) m);rw[j];clear m j;go_cut [4] (fun s wc=>s=.string (((ByteArray.empty++a.getD 0 ByteArray.empty)++a.getD 1 ByteArray.empty)++a.getD 2 ByteArray.empty)/\w1=wc)
 case first=>
  go_wp2_with fail
  go_loop [4,5] (fun s i=>∃(k:Nat) (t:ByteArray),k<=3/\s=.string t/\i=.int .i64 k/\t.size<=20000*k/\((k<=0/\t=ByteArray.empty)∨(k=1/\t=ByteArray.empty++a.getD 0 ByteArray.empty)∨(k=2/\t=(ByteArray.empty++a.getD 0 ByteArray.empty)++a.getD 1 ByteArray.empty)∨(k=3/\t=((ByteArray.empty++a.getD 0 ByteArray.empty)++a.getD 1 ByteArray.empty)++a.getD 2 ByteArray.empty))) (fun _ i=>3-(intOf i).toNat)
  case atStart=>exact⟨0,ByteArray.empty,by omega,rfl,rfl,by decide,Or.inl ⟨by omega,rfl⟩⟩
  case round=>
   obtain⟨k,t,F,rfl,rfl,H,p⟩:=hrel;have n:=Z p;clear p;by_cases G:k<3
   ·have o:k<a.length:=by have:=y.out;omega
    obtain⟨x,d⟩:=nm (a[k]);have I:x.size<=20000:=by rw[<-d];exact v _ (List.getElem_mem _)
    have y0:w1.cell? (r,k)=some (.string x):=z.cell (by rw[List.getElem?_map,List.getElem?_eq_getElem o,d];rfl);have q:a.getD k ByteArray.empty=x:=by rw[List.getD_eq_getElem?_getD,List.getElem?_eq_getElem o,d];rfl
    have g:=Z q;clear q d;have C:(t++x).size<=20000*(k+1):=by rw[ByteArray.size_append];omega
    go_wp2
    go_round
    case rel=>
     refine⟨k+1,t++x,by omega,rfl,by go_num,C,?_⟩;rcases n with⟨c,b⟩|⟨c,b⟩|⟨c,b⟩|⟨c,b⟩
     ·obtain rfl:k=0:=by omega
      exact Or.inr (Or.inl ⟨rfl,by rw[b,g]⟩)
     ·subst c
      exact Or.inr (Or.inr (Or.inl ⟨rfl,by rw[b,g]⟩))
     ·subst c
      exact Or.inr (Or.inr (Or.inr ⟨rfl,by rw[b,g]⟩))
     ·omega
    case measure=>simp[intOf];omega
   ·have E:¬(14+(k:Int)<=16):=by omega
    have A:Hid (t=((ByteArray.empty++a.getD 0 ByteArray.empty)++a.getD 1 ByteArray.empty)++a.getD 2 ByteArray.empty):=Z (by
     rcases n with⟨c,b⟩|⟨c,b⟩|⟨c,b⟩|⟨c,b⟩
     ·omega
     ·omega
     ·omega
     ·exact b)
    go_wp2
    go_meet
    exact⟨congrArg Value.string A,rfl⟩
 case rest=>
  obtain⟨rfl,rfl⟩:=hcut;go_wp2
  go_ret;exact⟨rfl,u⟩
def zY:ByteArray:=⟨#[120,98,111,114,110]⟩
def ug(L:List (ByteArray×Int))(r:oo):br:=⟨r.num,(qF (cM L r.zW)).1,r.k0,r.k1,r.k2,r.k3⟩
def eU(L:List (ByteArray×Int)):List br:=match cM L zY with
 |some b=>[⟨1,b,0,0,0,0⟩]
 |none=>[]
def hp(L:List (ByteArray×Int))(n:Int)(l:List oo):List br:=(l.filter fun r=>decide (r.oq<=n)).map (ug L)
def gq(L:List (ByteArray×Int))(n:Int):List br:=eU L++hp L n dA
theorem qK(L:List (ByteArray×Int))(n:Int)(l:List oo)(k:Nat)(x:oo)(a:l[k]?=some x):hp L n (l.take (k+1))=hp L n (l.take k)++(if x.oq<=n then [ug L x]else []):=by
 unfold hp;rw[List.take_add_one,a];simp only[Option.toList,List.filter_append,List.map_append]
 congr 1
 by_cases h:x.oq<=n<;>simp[h]
def dI(w w':World):Prop:=∀(k:Nat) (c:Array Value) (t:TypeId) (f:Nat×Nat),t≠33->t≠49->w.heap[k]?=some (.cells c t f)->w'.heap[k]?=some (.cells c t f)
theorem dI.refl(w:World):dI w w:=fun _ _ _ _ _ _ h=>h
theorem dI.trans{a b c:World}(h:dI a b)(g:dI b c):dI a c:=fun k x t f d e i=>g k x t f d e (h k x t f d e i)
theorem dI.row{w w':World}(h:dI w w'){b:Nat}{t:TypeId}{l:List Value}(d:Row w b t l)(a:t≠33)(c:t≠49):Row w' b t l:=h b _ t _ a c d
theorem dI.fa{w w':World}{D:Nat->Prop}(c:Ch D w w')(b:∀k x t f,D k->w.heap[k]?=some (.cells x t f)->t=33∨t=49):dI w w':=by
 intro k x t f e g a;rw[c.same k (Array.getElem?_eq_some_iff.1 a).1 (fun d=>by rcases b k x t f d a with h|h<;>contradiction)];exact a
theorem dI.own{w w':World}(h:dI w w'){B:Nat}{e:TypeId}{s n:Nat}{v:Value}{b:List Value}(a:w.ownsRow B e s v n b)(c:e≠33)(d:e≠49):w'.ownsRow B e s v n b:=by
 refine⟨a.1,?_⟩;rcases a.2 with f|⟨g,cap,cur,rfl,j,k,i⟩
 ·exact Or.inl f
 ·exact Or.inr ⟨g,cap,cur,rfl,j,h g _ e _ c d k,i⟩
structure mB(w:World)(B lb:Nat)(vc vk:Value)(loop:Int)(calls:List br):Prop where
 row:Row w lb 33 [vc,loop,vk]
 hB:B<=lb
 own:w.ownsRow B 49 6 vk calls.length (calls.flatMap br.cells)
theorem mB.af{w w':World}{B lb:Nat}{a b:Value}{loop:Int}{calls:List br}(h:mB w B lb a b loop calls)(c:Ch ag w w'):mB w' B lb a b loop calls:=⟨h.row.ch c (fun e=>e),h.hB,ar h.own c (fun _ _ e=>e)⟩
theorem mB.app{w w1:World}{B lb:Nat}{g i a:Value}{loop:Int}{calls:List br}(h:mB w B lb g i loop calls)(r:B<=w.heap.size)(y:br)
 (q:w1.ownsRow B 49 6 a (calls.length+1) (calls.flatMap br.cells++y.cells)) (l:w.grownBy w1 i.ownBlock):
 mB (w1.setCell (lb,2) a) B lb g a loop (calls++[y])/\Below B w (w1.setCell (lb,2) a)/\dI w (w1.setCell (lb,2) a):=by
 have c:=j3 (p:=lb) (j:=2) (u:=a) l;have m:Row w1 lb 33 [g,loop,i]:=by
  unfold Row;rw[l.block lb h.row.lt (fun e=>bh h.own h.row (by decide) e.symm)];exact h.row
 refine⟨⟨m.a' _ _ rfl,h.hB,?_⟩,fS c h.own h.hB r,?_⟩
 ·have:=dL (j:=2) (u:=a) q m (by decide)
  rw[List.flatMap_append,List.length_append];simpa using this
 ·refine dI.fa c (fun k x t f d b=> ?_)
  rcases d with rfl|d
  ·exact Or.inl (eD h.row b)
  ·obtain⟨_,cs,n⟩:=bJ h.own d
   rw[n]at b;injection b with b;injection b with _ o _
   exact Or.inr o.symm
theorem zZ:(prog.info? 49).map (fun i=>(i.zero,i.size,i.bytes))=some (some (.agg #[.int .i64 0,.int .i64 0,.int .i64 0,.int .i64 0,.int .i64 0,.int .i64 0]),6,48):=by kernel_rfl
end Go.Proofs.YtfnilkpkogipfaaGreatDoor
