import Derived.Laws.StructEq
import Derived.BigQuiet
import Derived.Deep.QuietTactic
import Derived.StillTailTactics
import Derived.Deep.AppendLies
import Derived.Deep.RegionLaw
import Derived.Deep.DeepCutAuto
import Derived.Test.YtlihkblppjgebaaGreatDoorZAl
import Derived.Test.YtlihkblppjgebaaGreatDoorZAm
set_option linter.all false
set_option maxRecDepth 100000
set_option maxHeartbeats 8000000
namespace Go.Proofs.YtlihkblppjgebaaGreatDoor
open Go.RowKit Go.Proofs.Tryz
theorem Hk(t:ByteArray):∀(f i a:Nat),i+f<=t.size+1->(∀x∈p2 t f i a,1<=x.size/\x.size<=t.size)/\(p2 t f i a).length<=f
 |0,_,_,_=>by simp[p2]
 |f+1,i,a,h=>by
  obtain⟨d,e⟩:=Hk t f (i+1) a (by omega);obtain⟨c,g⟩:=Hk t f (i+1) (i+1) (by omega);unfold p2;split
  ·exact⟨d,by omega⟩
  ·split
   ·refine⟨fun x b=> ?_,by simp;omega⟩
    rcases List.mem_cons.1 b with rfl|b
    ·simp;omega
    ·exact c x b
   ·exact⟨c,by omega⟩
theorem LD(s:ByteArray):(Hs s).size<=s.size:=by
 unfold Hs;split
 ·simp;omega
 ·exact Nat.le_refl _
theorem Ke(s:ByteArray):(∀x∈Ge s,1<=x.size/\x.size<=s.size)/\(Ge s).length<=s.size+1:=by
 obtain⟨a,d⟩:=Hk (Hs s) ((Hs s).size+1) 0 0 (by omega);have c:=LD s;exact⟨fun x b=>⟨(a x b).1,Nat.le_trans (a x b).2 c⟩,by unfold Ge;omega⟩
def GD(w:World)(g:Nat)(a:List ByteArray):Prop:=
 ∃cur:Array Value,w.heap[g]?=some (.cells cur 9 (0,0))/\∀(j:Nat) (x:ByteArray),a[j]?=some x->cur[j]?=some (.string x)
theorem GD.keep{w w':World}{g:Nat}{a:List ByteArray}(h:GD w g a)(k:Gm w w'):GD w' g a:=by
 obtain⟨cur,b,c⟩:=h;exact⟨cur,k g cur 9 _ (Or.inl rfl) b,c⟩
theorem GD.cell{w:World}{g:Nat}{a:List ByteArray}(h:GD w g a){j:Nat}{x:ByteArray}(hj:a[j]?=some x):w.cell? ⟨g,j,none⟩=some (.string x):=by
 obtain⟨cur,b,c⟩:=h;rw[Fx b];exact c j x hj
theorem GD.lt{w:World}{g:Nat}{b:List ByteArray}(h:GD w g b):g<w.heap.size:=by
 obtain⟨cur,a,_⟩:=h;exact(Array.getElem?_eq_some_iff.1 a).1
theorem GD.H6{w:World}{B:Nat}{v:Value}{a:List ByteArray}(h:w.ownsRow B 9 1 v a.length (a.map Value.string))(k:a≠[]):
 ∃g cap,v=.slice (some ⟨g,0,none⟩) a.length cap/\B<=g/\a.length<=cap/\cap<=maxLen/\GD w g a:=by
 rcases h.2 with⟨_,c⟩|⟨g,cap,cur,rfl,d,f,e,i,m,l⟩
 ·exact absurd (List.eq_nil_of_length_eq_zero c) k
 ·refine⟨g,cap,rfl,d,e,i,cur,f,fun j x hj=> ?_⟩
  have b:(a.map Value.string)[j]?=some (.string x):=by simp[hj]
  rw[<-l]at b;rw[List.getElem?_take]at b;split at b
  ·simpa using b
  ·cases b
theorem GI{w w':World}(h:Below w.heap.size w w'):Gm w w':=by
 intro k c t f _ a;rw[h.block k (Array.getElem?_eq_some_iff.1 a).1];exact a
theorem Gn{w w':World}{B:Nat}{e:TypeId}{size:Nat}{v:Value}{n:Nat}{a:List Value}(h:w.ownsRow B e size v n a)(hb:Below w.heap.size w w'):w'.ownsRow B e size v n a:=
 h.kept (row:=none) ⟨hb.os,hb.tape,hb.output,hb.size,fun k b _=>hb.block k b⟩ (by cases v.ownBlock<;>simp)
theorem FU.below{w w':World}{B p b:Nat}{st:FJ}(h:FU w B p b st)(hb:Below w.heap.size w w'):FU w' B p b st:=by
 obtain⟨m,l,n,o,a,d,e,i,k,f,j,hw,g,c⟩:=h;exact⟨m,l,n,o,a,by rw[hb.block p (Array.getElem?_eq_some_iff.1 d).1];exact d,e,Gn i hb,k,Gn f hb,Gn j hb,Gn hw hb,g,
  by rw[hb.block a (Array.getElem?_eq_some_iff.1 c).1];exact c⟩
theorem FU.fresh{w:World}{B p c:Nat}{st:FJ}(h:FU w B p c st)(k:Nat)(m:w.heap.size<=k):FU w B p k st:=by
 obtain⟨i,g,j,l,b,f,d,a,n,rest⟩:=h;refine⟨i,g,j,l,b,f,d,a,fun e=> ?_,rest⟩;have:=(a.lt k e).2;omega
def F5:List (ByteArray×Int)->ByteArray->Nat->Option Nat
 |[],_,_=>none
 |b::l,nm,i=>if b.1=nm then some i else F5 l nm (i+1)
def MV(x:(ByteArray×Int)×Nat):MapEntry:={key:=.string x.1.1,val:=.int .i64 x.2,born:=x.2}
theorem IU(a b:ByteArray):(a==b)=true↔a=b:=by
 rw[beq_toListBytes,beq_iff_eq,ByteArray.toList_eq,ByteArray.toList_eq];exact⟨fun h=>ByteArray.ext (Array.ext' h),fun h=>by rw[h]⟩
theorem Hu(nm:ByteArray):∀(l:List (ByteArray×Int)) (i:Nat),Instr.findNow .string (.string nm) ((l.zipIdx i).map MV) i=some ((F5 l nm i).map fun(j:Nat)=>(j,Value.int .i64 (j:Int)))
 |[],_=>rfl
 |b::l,i=>by
  have ih:=Hu nm l (i+1);simp only[List.zipIdx_cons,List.map_cons,Instr.findNow,MV,Instr.sameNow,F5];by_cases h:b.1=nm
  ·have a:(nm==b.1)=true:=(IU nm b.1).2 h.symm
   rw[a,if_pos h];rfl
  ·have a:(nm==b.1)=false:=by
    rw[Bool.eq_false_iff];intro e;exact h ((IU nm b.1).1 e).symm
   rw[a,if_neg h];exact ih
def IV:Option Nat->Value
 |some j=> .tuple #[.int .i64 j,.bool true]
 |none=> .tuple #[.int .i64 0,.bool false]
theorem Hl(w:World)(a:Nat)(l:List (ByteArray×Int))(n:Nat)(nm:ByteArray)(e:w.heap[a]?=some (.map (FP l) n)):
 (Instr.lookup 293 (.map (some a)) (.string nm) true).run prog w=.ok (IV (F5 l nm 0)) w:=by
 have c:Instr.findNow .string (.string nm) (FP l).toList 0=some ((F5 l nm 0).map fun(j:Nat)=>(j,Value.int .i64 (j:Int))):=Hu nm l 0;have d:∀b w,(Instr.checkKey b 10000 9 (.string nm)).run prog w=.ok () w:=fun b w=>by
  unfold Instr.checkKey;simp[run_underlying underlying9]
 have f:(zeroValue 3).run prog w=.ok (.int .i64 0) w:=by kernel_rfl
 unfold Instr.lookup Instr.findKey;simp only[go_sem,run_underlying underlying293,run_underlying underlying9,Sem.run_bind,Result.andThen_ok,getObj,Sem.run,e,d];simp only[Sem.run_pure,Result.andThen_ok,c];cases F5 l nm 0<;>simp[IV,f,go_sem]
def F4(r:Except Bool FJ)(B p:Nat)(line:Int)(w:World)(e:Ending)(w':World):Prop:=
 match r with
 |.ok st=>e=.returned .nilIface/\FU w' B p p st/\Below B w w'/\Gm w w'
 |.error t=>∃v,e=.returned v/\IQ w' B line t v/\Below B w w'
theorem F4.text{r:Except Bool FJ}{B p:Nat}{line:Int}{w W:World}{n:Nat}(h:r=.error true)(b:n=W.heap.size)(hb:Below B w W)(a:B<=W.heap.size):
 F4 r B p line w (.returned (.iface 247 (.pointer (some ⟨n,0,none⟩)))) (W.alloc (.cells #[.string ⟨#[97,115,109]⟩,.int .i64 line,.iface 152 (.int .i64 6)] 249)):=by
 subst h;subst b;exact⟨_,rfl,⟨_,_,rfl,a,hs,fun _=>rfl⟩,hb.alloc a _⟩
def GG(w:World)(a:Nat)(b:Array MapEntry)(n:Nat):World:={w with heap:=w.heap.setIfInBounds a (.map b n)}
theorem JI(l:List (ByteArray×Int))(x:ByteArray×Int):(FP l).push ⟨.string x.1,.int .i64 l.length,l.length⟩=FP (l++[x]):=by
 unfold FP;simp[List.zipIdx_append]
theorem Kz(w:World)(a:Nat)(l:List (ByteArray×Int))(x:ByteArray×Int)(d:w.heap[a]?=some (.map (FP l) l.length))(c:F5 l x.1 0=none):
 (Instr.mapUpdate 293 (.map (some a)) (.string x.1) (.int .i64 l.length)).run prog w=.ok () (GG w a (FP (l++[x])) (l.length+1)):=by
 have c:Instr.findNow .string (.string x.1) (FP l).toList 0=some none:=by
  have:=Hu x.1 l 0;rw[c]at this;exact this
 have e:∀b w,(Instr.checkKey b 10000 9 (.string x.1)).run prog w=.ok () w:=fun b w=>by
  unfold Instr.checkKey;simp[run_underlying underlying9]
 unfold Instr.mapUpdate Instr.findKey;simp only[go_sem,run_underlying underlying293,run_underlying underlying9,Sem.run_bind,Result.andThen_ok,getObj,Sem.run,d,e];simp only[Sem.run_pure,Result.andThen_ok,c];simp[setObj,Sem.run,d,GG,JI]
theorem LF(s:ByteArray)(k:s.size<=65536)(line:Int)(B p:Nat)(st:FJ)(w:World)(f:FU w B p p st)(i:B<=w.heap.size)(hw:Ge s=[]):
 Calls prog 144 #[.pointer (some ⟨p,0,none⟩),.string s,.int .i64 line] w (F4 (.ok st) B p line w):=by
 have g:=Z f;have h:=Z hw;clear f hw;go_enter func144,ntmps144
 go_wp2_with fail
 refine(GF s k w).mono ?_;rintro e w1 ⟨v,rfl,d,b⟩;rw[h.out]at d;obtain⟨a,c,rfl⟩:=Gd d;have j:=Z (g.out.below b);clear d;simp only[List.length_nil];go_wp2
 go_ret;exact⟨rfl,j.out,b.mono i,GI b⟩
theorem KA(s:ByteArray)(H:s.size<=65536)(line:Int)(B p:Nat)(st:FJ)(w:World)(n:FU w B p p st)(x:B<=w.heap.size)(a:ByteArray)(hw:Ge s=[a])
 (L:1<=a.size) (M:a.size<=65536) (i:Fz a (a.size-1)=58) (j:Nat) (l:F5 st.labels (a.extract 0 (a.size-1)) 0=some j):
 Calls prog 144 #[.pointer (some ⟨p,0,none⟩),.string s,.int .i64 line] w (F4 (.error true) B p line w):=by
 have t:=Z n;have u:=Z hw;have U:a.size-1<a.size:=by omega
 have K:((a[a.size-1].toNat:Int)==58)=true:=by rw[kT,beq_iff_eq];exact i
 have q:=Z l;clear n hw i l;go_enter func144,ntmps144
 go_wp2_with fail
 refine(GF s H w).mono ?_;rintro e w1 ⟨v,rfl,d,c⟩;rw[u.out]at d;obtain⟨g,cap,rfl,N,k,R,h⟩:=GD.H6 d (by simp);have o:=t.out.below c;have J:=Z o;obtain⟨X,W,Y,a0,b,f,O,A,F,y,G,I,P,m⟩:=o;have V:w1.cell? ⟨p,3,none⟩=some (.map (some b)):=Fx f;have t0:w1.cell? ⟨g,0,none⟩=some (.string a):=h.cell (j:=0) rfl;have T:p<w1.heap.size:=(Array.getElem?_eq_some_iff.1 f).1;have S:g<w1.heap.size:=h.lt;have r:=Z m;have z:∀nq,(Instr.lookup 293 (.map (some b)) (.string (a.extract 0 (a.size-1))) true).run prog (w1.drewN nq)=.ok (.tuple #[.int .i64 j,.bool true]) (w1.drewN nq):=fun nq=>by
  rw[Hl (w1.drewN nq) b st.labels st.labels.length _ r.out,q.out];rfl
 clear f A F y G I m d h;have Q:1<=cap:=by simpa using k
 clear k;simp only[List.length_cons,List.length_nil];go_wp2
 have C:(0:Int)<=(a.size:Int)-1:=by omega
 have D:((a.size:Int)-1).toNat=a.size-1:=by omega
 have E:(a.size:Int)-1<=(a.size:Int):=by omega
 go_quiet (fail)
 clear z C D E;go_wp2_with (go_at_call 142;refine(FD _ _ _ _).mono ?_;rintro e w' ⟨rfl,rfl⟩)
 go_ret;exact F4.text rfl rfl (below_drewN (c.mono x) _) (by have:=c.size;simp;omega)
theorem JJ(s:ByteArray)(G:s.size<=65536)(line:Int)(B p:Nat)(st:FJ)(w:World)(o:FU w B p p st)(z:B<=w.heap.size)(a:ByteArray)(hw:Ge s=[a])
 (K:1<=a.size) (L:a.size<=65536) (i:Fz a (a.size-1)=58) (l:F5 st.labels (a.extract 0 (a.size-1)) 0=none) (n:GN (a.extract 0 (a.size-1))=false):
 Calls prog 144 #[.pointer (some ⟨p,0,none⟩),.string s,.int .i64 line] w (F4 (.error true) B p line w):=by
 have x:=Z o;have y:=Z hw;have W:a.size-1<a.size:=by omega
 have J:((a[a.size-1].toNat:Int)==58)=true:=by rw[kT,beq_iff_eq];exact i
 have r:=Z l;have u:=Z (Hh (a.extract 0 (a.size-1)) (by unfold maxLen;simp;omega) false n);clear n;clear o hw i l;go_enter func144,ntmps144
 go_wp2_with fail
 refine(GF s G w).mono ?_;rintro e w1 ⟨v,rfl,d,c⟩;rw[y.out]at d;obtain⟨g,cap,rfl,M,k,Q,h⟩:=GD.H6 d (by simp);have q:=x.out.below c;have I:=Z q;obtain⟨a0,Y,a1,a2,b,f,N,D,E,A,F,H,O,m⟩:=q;have X:w1.cell? ⟨p,3,none⟩=some (.map (some b)):=Fx f;have t0:w1.cell? ⟨g,0,none⟩=some (.string a):=h.cell (j:=0) rfl;have V:p<w1.heap.size:=(Array.getElem?_eq_some_iff.1 f).1;have R:g<w1.heap.size:=h.lt;have t:=Z m;have C:∀nq,(Instr.lookup 293 (.map (some b)) (.string (a.extract 0 (a.size-1))) true).run prog (w1.drewN nq)=.ok (.tuple #[.int .i64 0,.bool false]) (w1.drewN nq):=fun nq=>by
  rw[Hl (w1.drewN nq) b st.labels st.labels.length _ t.out,r.out];rfl
 clear f D E A F H m d h;have P:1<=cap:=by simpa using k
 clear k;simp only[List.length_cons,List.length_nil];go_wp2
 have S:(0:Int)<=(a.size:Int)-1:=by omega
 have T:((a.size:Int)-1).toNat=a.size-1:=by omega
 have U:(a.size:Int)-1<=(a.size:Int):=by omega
 go_quiet (fail)
 clear C;go_wp2_with (first|(go_at_call 186;refine(u.out _).mono ?_;rintro e w' ⟨rfl,rfl⟩)|(go_at_call 142;refine(FD _ _ _ _).mono ?_;rintro e w' ⟨rfl,rfl⟩))
 go_ret;exact F4.text rfl rfl (below_drewN (c.mono z) _) (by have:=c.size;simp;omega)
def H7(w:World)(B p h:Nat)(code:List aV)(c labels:List (ByteArray×Int))(lines:List Int)(g:List (Int×Int×ByteArray)):Prop:=
 ∃b d e f a,w.heap[p]?=some (.cells #[b,d,e,.map (some a),f] 296 (0,0))/\B<=p/\
  w.ownsRow B 184 7 b code.length (b' code)/\b.ownBlock≠some h/\
  w.ownsRow B 301 2 d labels.length (FZ labels)/\
  w.ownsRow B 3 1 e lines.length (Gv lines)/\
  w.ownsRow B 300 3 f g.length (FT g)/\
  B<=a/\w.heap[a]?=some (.map (FP c) c.length)
theorem FU.parts{w:World}{B p a:Nat}{st:FJ}(h:FU w B p a st):H7 w B p a st.code st.labels st.labels st.lines st.bp:=h
theorem H7.whole{w:World}{B p a:Nat}{st:FJ}(h:H7 w B p a st.code st.labels st.labels st.lines st.bp):FU w B p a st:=h
theorem GR{w:World}{a k:Nat}{b:Array MapEntry}{n:Nat}(h:k≠a):(GG w a b n).heap[k]?=w.heap[k]?:=by
 unfold GG;simp only[Array.getElem?_setIfInBounds];rw[if_neg (Ne.symm h)]
theorem JK(w:World)(a:Nat)(b:Array MapEntry)(n:Nat):w.grownBy (GG w a b n) (some a):=
 ⟨rfl,rfl,rfl,by simp[GG],fun k _ c=>GR (fun e=>c (by rw[e]))⟩
theorem Hm{w:World}{B:Nat}{e:TypeId}{size:Nat}{v:Value}{n:Nat}{b:List Value}(h:w.ownsRow B e size v n b){k:Nat}{c:Array MapEntry}{t:Nat}(a:w.heap[k]?=some (.map c t)):v.ownBlock=none∨v.ownBlock≠some k:=Or.inr (HB h a)
theorem H7.put{w:World}{B p r b:Nat}{code:List aV}{a l:List (ByteArray×Int)}{lines:List Int}{q:List (Int×Int×ByteArray)}{j m n o:Value}(x:ByteArray×Int)
 (h:w.heap[p]?=some (.cells #[j,m,n,.map (some b),o] 296 (0,0))) (v:B<=p) (s:w.ownsRow B 184 7 j code.length (b' code)) (A:j.ownBlock≠some r)
 (hb:w.ownsRow B 301 2 m l.length (FZ l)) (u:w.ownsRow B 3 1 n lines.length (Gv lines)) (hw:w.ownsRow B 300 3 o q.length (FT q))
 (y:B<=b) (d:w.heap[b]?=some (.map (FP a) a.length)):
 H7 (GG w b (FP (a++[x])) (a.length+1)) B p r code (a++[x]) l lines q/\Below B w (GG w b (FP (a++[x])) (a.length+1))/\Gm w (GG w b (FP (a++[x])) (a.length+1)):=by
 have i:=JK w b (FP (a++[x])) (a.length+1);have z:b<w.heap.size:=(Array.getElem?_eq_some_iff.1 d).1;have C:p≠b:=by
  intro e;subst e;rw[d]at h;injection h with h;cases h
 refine⟨⟨j,m,n,o,b,?_,v,s.kept i (Hm s d),A,hb.kept i (Hm hb d),u.kept i (Hm u d),hw.kept i (Hm hw d),y,?_⟩,?_,?_⟩
 ·rw[GR C];exact h
 ·unfold GG;simp[Array.getElem?_setIfInBounds,z]
 ·exact⟨rfl,rfl,rfl,by simp[GG],fun k g=>GR (by omega)⟩
 ·intro k c t f _ g
  rw[GR (fun e=>by subst e;rw[d]at g;injection g with g;cases g)];exact g
theorem Pn{w w1:World}{B p r b:Nat}{code:List aV}{o l:List (ByteArray×Int)}{lines:List Int}{q:List (Int×Int×ByteArray)}{h g m n d:Value}{y:ByteArray×Int}
 (a:w.heap[p]?=some (.cells #[h,g,m,.map (some b),n] 296 (0,0))) (s:B<=p) (t:w.ownsRow B 184 7 h code.length (b' code)) (C:h.ownBlock≠some r)
 (hb:w.ownsRow B 301 2 g l.length (FZ l)) (v:w.ownsRow B 3 1 m lines.length (Gv lines)) (hw:w.ownsRow B 300 3 n q.length (FT q))
 (z:B<=b) (i:w.heap[b]?=some (.map (FP o) o.length))
 (D:w1.ownsRow B 301 2 d (l.length+1) (FZ l++[.string y.1,.int .i64 y.2])) (c:w.grownBy w1 g.ownBlock):
 H7 (w1.setCell ⟨p,1,none⟩ d) B p r code o (l++[y]) lines q/\Below B w (w1.setCell ⟨p,1,none⟩ d)/\Gm w (w1.setCell ⟨p,1,none⟩ d):=by
 have x:p<w.heap.size:=(Array.getElem?_eq_some_iff.1 a).1;have F:g.ownBlock≠some p:=FE hb a (by decide);have f:w1.heap[p]?=some (.cells #[h,g,m,.map (some b),n] 296 (0,0)):=by rw[c.block p x (Ne.symm F)];exact a
 have E:b≠p:=by
  intro e;subst e;rw[i]at a;injection a with a;cases a
 refine⟨⟨h,d,m,n,b,FX f,s,Gj t c (Gi t hb (by decide)) f (by decide),C,?_,Gj v c (Gi v hb (by decide)) f (by decide),Gj hw c (Gi hw hb (by decide)) f (by decide),z,?_⟩,?_,?_⟩
 ·have:=Iy (j:=1) (u:=d) D f (by decide)
  simpa[FZ]using this
 ·rw[FN (by simpa using E),c.block b (Array.getElem?_eq_some_iff.1 i).1 (Ne.symm (HB hb i))];exact i
 ·exact G5 c (fun k A=>(hb.lt k A).1) s x
 ·exact Hi a c (HE hb (by decide))
theorem N4{w w1:World}{B p s b:Nat}{code:List aV}{q l:List (ByteArray×Int)}{lines:List Int}{r:List (Int×Int×ByteArray)}{h n i o f:Value}{y:Int}
 (a:w.heap[p]?=some (.cells #[h,n,i,.map (some b),o] 296 (0,0))) (t:B<=p) (v:w.ownsRow B 184 7 h code.length (b' code)) (C:h.ownBlock≠some s)
 (hb:w.ownsRow B 301 2 n l.length (FZ l)) (d:w.ownsRow B 3 1 i lines.length (Gv lines)) (hw:w.ownsRow B 300 3 o r.length (FT r))
 (z:B<=b) (m:w.heap[b]?=some (.map (FP q) q.length))
 (D:w1.ownsRow B 3 1 f (lines.length+1) (Gv lines++[.int .i64 y])) (c:w.grownBy w1 i.ownBlock):
 H7 (w1.setCell ⟨p,2,none⟩ f) B p s code q l (lines++[y]) r/\Below B w (w1.setCell ⟨p,2,none⟩ f)/\Gm w (w1.setCell ⟨p,2,none⟩ f):=by
 have x:p<w.heap.size:=(Array.getElem?_eq_some_iff.1 a).1;have F:i.ownBlock≠some p:=FE d a (by decide);have g:w1.heap[p]?=some (.cells #[h,n,i,.map (some b),o] 296 (0,0)):=by rw[c.block p x (Ne.symm F)];exact a
 have E:b≠p:=by
  intro e;subst e;rw[m]at a;injection a with a;cases a
 refine⟨⟨h,n,f,o,b,FX g,t,Gj v c (Gi v d (by decide)) g (by decide),C,Gj hb c (Gi hb d (by decide)) g (by decide),?_,Gj hw c (Gi hw d (by decide)) g (by decide),z,?_⟩,?_,?_⟩
 ·have:=Iy (j:=2) (u:=f) D g (by decide)
  simpa[Gv]using this
 ·rw[FN (by simpa using E),c.block b (Array.getElem?_eq_some_iff.1 m).1 (Ne.symm (HB d m))];exact m
 ·exact G5 c (fun k A=>(d.lt k A).1) t x
 ·exact Hi a c (HE d (by decide))
theorem Lc{w w1:World}{B p q b:Nat}{code:List aV}{r l:List (ByteArray×Int)}{lines:List Int}{s:List (Int×Int×ByteArray)}{g m n o f:Value}{y:aV}
 (a:w.heap[p]?=some (.cells #[g,m,n,.map (some b),o] 296 (0,0))) (t:B<=p) (d:w.ownsRow B 184 7 g code.length (b' code)) (G:g.ownBlock≠some q)
 (hb:w.ownsRow B 301 2 m l.length (FZ l)) (v:w.ownsRow B 3 1 n lines.length (Gv lines)) (hw:w.ownsRow B 300 3 o s.length (FT s))
 (z:B<=b) (i:w.heap[b]?=some (.map (FP r) r.length))
 (D:w1.ownsRow B 184 7 f (code.length+1) (b' code++(aC y).toList)) (c:w.grownBy w1 g.ownBlock) (C:f.ownBlock≠some q):
 H7 (w1.setCell ⟨p,0,none⟩ f) B p q (code++[y]) r l lines s/\Below B w (w1.setCell ⟨p,0,none⟩ f)/\Gm w (w1.setCell ⟨p,0,none⟩ f):=by
 have x:p<w.heap.size:=(Array.getElem?_eq_some_iff.1 a).1;have F:g.ownBlock≠some p:=FE d a (by decide);have h:w1.heap[p]?=some (.cells #[g,m,n,.map (some b),o] 296 (0,0)):=by rw[c.block p x (Ne.symm F)];exact a
 have E:b≠p:=by
  intro e;subst e;rw[i]at a;injection a with a;cases a
 refine⟨⟨f,m,n,o,b,FX h,t,?_,C,Gj hb c (Gi hb d (by decide)) h (by decide),Gj v c (Gi v d (by decide)) h (by decide),Gj hw c (Gi hw d (by decide)) h (by decide),z,?_⟩,?_,?_⟩
 ·have:=Iy (j:=0) (u:=f) D h (by decide)
  simpa[b']using this
 ·rw[FN (by simpa using E),c.block b (Array.getElem?_eq_some_iff.1 i).1 (Ne.symm (HB d i))];exact i
 ·exact G5 c (fun k A=>(d.lt k A).1) t x
 ·exact Hi a c (HE d (by decide))
theorem Jb{B:Nat}{w w':World}(h:Below B w.drew w'):Below B w w':=⟨h.os,h.tape,h.output,h.size,h.block⟩
theorem Pp:(prog.info? 301).map (fun i=>(i.zero,i.size,i.bytes))=some (some (.agg #[.string ByteArray.empty,.int .i64 0]),2,24):=by kernel_rfl
theorem Q7:(prog.info? 3).map (fun i=>(i.zero,i.size,i.bytes))=some (some (.int .i64 0),1,8):=by kernel_rfl
theorem KB(s:ByteArray)(fo:s.size<=65536)(line:Int)(B p:Nat)(st:FJ)(w:World)(c8:FU w B p p st)(eC:B<=w.heap.size)(a:ByteArray)(hw:Ge s=[a])
 (gt:1<=a.size) (gA:a.size<=65536) (bw:Fz a (a.size-1)=58) (c3:F5 st.labels (a.extract 0 (a.size-1)) 0=none) (c7:GN (a.extract 0 (a.size-1))=true) (hi:st.labels.length<=1048576) (hm:st.lines.length<=1048576):
 Calls prog 144 #[.pointer (some ⟨p,0,none⟩),.string s,.int .i64 line] w (F4 (.ok {st with labels:=st.labels++[(a.extract 0 (a.size-1),(st.code.length:Int))],lines:=st.lines++[line]}) B p line w):=by
 have ec:=Z c8;have en:=Z hw;have hu:a.size-1<a.size:=by omega
 have gk:((a[a.size-1].toNat:Int)==58)=true:=by rw[kT,beq_iff_eq];exact bw
 have W:=Z c3;have dC:=Z (Hh (a.extract 0 (a.size-1)) (by unfold maxLen;simp;omega) true c7);clear c7;clear c8 hw bw c3;go_enter func144,ntmps144
 go_wp2_with fail
 refine(GF s fo w).mono ?_;rintro e w1 ⟨v,rfl,N,K⟩;rw[en.out]at N;obtain⟨g,cap,rfl,gL,c0,hf,G⟩:=GD.H6 N (by simp);have c9:=ec.out.below K;have ab:=Z c9;obtain⟨cq,o,ct,cA,f,b,z,i,l,d,m,n,k,h⟩:=c9;have S:w1.cell? ⟨p,3,none⟩=some (.map (some f)):=Fx b;have t0:w1.cell? ⟨g,0,none⟩=some (.string a):=G.cell (j:=0) rfl;have A:p<w1.heap.size:=(Array.getElem?_eq_some_iff.1 b).1;have L:g<w1.heap.size:=G.lt;have Y:=Z h;have eY:∀nq,(Instr.lookup 293 (.map (some f)) (.string (a.extract 0 (a.size-1))) true).run prog (w1.drewN nq)=.ok (.tuple #[.int .i64 0,.bool false]) (w1.drewN nq):=fun nq=>by
  rw[Hl (w1.drewN nq) f st.labels st.labels.length _ Y.out,W.out];rfl
 have ad:=Z G;clear b i l d m n h N G;have he:1<=cap:=by simpa using c0
 clear c0;simp only[List.length_cons,List.length_nil];go_wp2
 have ho:(0:Int)<=(a.size:Int)-1:=by omega
 have hq:((a.size:Int)-1).toNat=a.size-1:=by omega
 have hr:(a.size:Int)-1<=(a.size:Int):=by omega
 go_quiet (fail)
 clear eY;obtain⟨w2,C⟩:=nm (w1.drewN nq);have U:Hid (Below w.heap.size w w2):=by rw[<-C];exact below_drewN K _
 have fn:FU w2 B p p st:=by rw[<-C];exact ab.out
 have x:GD w2 g [a]:=by rw[<-C];exact ad.out
 rw[C];clear C S t0 A L k K Y ab ad z;obtain⟨cq,o,ct,cA,f,b,z,i,l,d,m,n,k,h⟩:=fn.parts;obtain⟨et,ex,rfl⟩:=Gd d;have H:w2.cell? ⟨p,1,none⟩=some (.slice et st.labels.length ex):=Fx b;have S:w2.cell? ⟨p,3,none⟩=some (.map (some f)):=Fx b;have t0:w2.cell? ⟨g,0,none⟩=some (.string a):=x.cell (j:=0) rfl;have D:=Z (H7.put (w:=w2.drew) (a.extract 0 (a.size-1),(st.code.length:Int)) b z i l d m n k h);have fb:(Instr.mapUpdate 293 (.map (some f)) (.string (a.extract 0 (a.size-1))) (.int .i64 st.labels.length)).run prog w2.drew=.ok () (GG w2.drew f (FP (st.labels++[(a.extract 0 (a.size-1),(st.code.length:Int))])) (st.labels.length+1)):=
  Kz w2.drew f st.labels (a.extract 0 (a.size-1),(st.code.length:Int)) h W.out
 clear b i l d m n k h;go_wp2_with (go_at_call 186;refine(dC.out _).mono ?_;rintro e w' ⟨rfl,rfl⟩)
 go_still_tail 14,(by kernel_rfl)
 change wpList _ _ _ _ _ w2.drew;go_wp2_with fail
 obtain⟨c,Q⟩:=nm (GG w2.drew f (FP (st.labels++[(a.extract 0 (a.size-1),(st.code.length:Int))])) (st.labels.length+1));rw[Q];have q:Hid (H7 c B p p st.code (st.labels++[(a.extract 0 (a.size-1),(st.code.length:Int))]) st.labels st.lines st.bp/\Below B w2 c/\Gm w2 c):=by rw[<-Q];exact⟨D.out.1,Jb D.out.2.1,D.out.2.2⟩
 clear Q fb H S t0 D;obtain⟨cq,o,ct,cA,f,b,z,i,l,d,m,n,k,h⟩:=q.out.1;obtain⟨ac,eA,rfl⟩:=Gd i;have gc:c.cell? ⟨p,0,none⟩=some (.slice ac st.code.length eA):=Fx b;have H:c.cell? ⟨p,1,none⟩=some o:=Fx b;have av:c.frozen? ⟨p,1,none⟩=false:=HD b;have t0:c.cell? ⟨g,0,none⟩=some (.string a):=(x.keep q.out.2.2).cell (j:=0) rfl;have A:p<c.heap.size:=(Array.getElem?_eq_some_iff.1 b).1;have L:g<c.heap.size:=(x.keep q.out.2.2).lt;have R:o.ownBlock≠some p:=FE d b (by decide);have fE:o.ownBlock≠some g:=by
  obtain⟨cur,eW,_⟩:=x.keep q.out.2.2;exact FE d eW (by decide)
 have gC:B<=c.heap.size:=by omega
 obtain⟨g4,c1,ch,ci,cl⟩:=info_parts Pp;have V:=Z c1;have a3:=Z b;have X:=Z i;have a1:=Z l;have a2:=Z m;have al:=Z n;have a0:=Z h;have ge:=Z x;clear c1 b i l m n h x;go_cut [] (fun wc=>H7 wc B p p st.code (st.labels++[(a.extract 0 (a.size-1),(st.code.length:Int))]) (st.labels++[(a.extract 0 (a.size-1),(st.code.length:Int))]) st.lines st.bp/\Below B c wc/\Gm c wc)
 case first=>
  go_region_law (first|(refine step_append_lies _ (by rfl) _ _ _ (by rfl) B 301 g4 _ 2 24 underlying238 V.out ch ci cl rfl (by omega) o st.labels.length (FZ st.labels) (by rfl) ((d.alloc _).drew) ⟨c.heap.size,0,none⟩ 1 1 [.string (a.extract 0 (a.size-1)),.int .i64 st.code.length] (by rfl) (by rfl) (World.news_of_block (cs:=#[.string (a.extract 0 (a.size-1)),.int .i64 st.code.length]) (t:=301) (fr:=(0,0)) (heap_alloc_new c _)) (by simp[Value.oneCell']) (by omega) (by unfold maxLen;omega) (by omega) (by simp;omega) (c.heap.size+1) (by simp) ?_;intro gs gr w4 fd M gR hn;have hv:w4.cell? ⟨p,1,none⟩=some o:=(M.cell_far ⟨p,1,none⟩ (by simp;omega) (Ne.symm R)).trans (by simp[go_sem,World.cell?_alloc_past,A,H]);have hB:w4.frozen? ⟨p,1,none⟩=false:=(M.frozen_far ⟨p,1,none⟩ (by simp;omega) (Ne.symm R)).trans (by simp[go_sem,World.frozen?_alloc_past,A,av])))
  all_goals(go_wp2_with fail;go_meet;exact(Pn (y:=(a.extract 0 (a.size-1),(st.code.length:Int))) a3.out z X.out a1.out d a2.out al.out k a0.out (by simpa using fd) (FR (F3 M))))
 case rest=>
  obtain⟨i5,fz⟩:=nm wc;subst fz;have am:=hcut;clear hcut d R fE gc H av t0 A L k ch ci cl V a3 X a1 a2 al a0;have I:=Z am;clear am;obtain⟨i3,i2,T,i4,go,r,eO,c4,c6,bv,F,ce,eU,c5⟩:=I.out.1;have cm:wc.cell? ⟨p,2,none⟩=some T:=Fx r;have bi:wc.frozen? ⟨p,2,none⟩=false:=HD r;have P:p<wc.heap.size:=(Array.getElem?_eq_some_iff.1 r).1;have cd:T.ownBlock≠some p:=FE F r (by decide);have gJ:B<=wc.heap.size:=by omega
  obtain⟨gb,c2,fK,fT,g2⟩:=info_parts Q7;have e1:=Z r;have cW:=Z c4;have dN:=Z c6;have cL:=Z bv;have es:=Z ce;have dr:=Z c5;have cS:=Z c2;clear r c4 c6 bv ce c5 c2;go_wp2_with (at_builtin;refine wpList_append_own _ rfl _ _ 45 rfl B 3 gb (.int .i64 0) 1 8 underlying45 cS.out fK fT g2 rfl (by decide) _ _ _ rfl (F.alloc _) ⟨wc.heap.size,0,none⟩ 1 1 [.int .i64 line] rfl rfl ?_ ?_ ?_ ?_ ?_ ?_)
  ·intro j u hj
   match j,hj with
   |0,hj=>simp at hj;subst hj;simp[Addr.add]
  ·first|rfl|(intro u cb;simp at cb;subst cb;rfl)
  ·unfold maxLen;omega
  ·omega
  ·simp;omega
  ·intro i1 cC O E _
   have hF:cC.cell? ⟨p,2,none⟩=some T:=(E.cell_far ⟨p,2,none⟩ (by simp;omega) (Ne.symm cd)).trans (by simp[go_sem,World.cell?_alloc_past,P,cm]);have i0:cC.frozen? ⟨p,2,none⟩=false:=(E.frozen_far ⟨p,2,none⟩ (by simp;omega) (Ne.symm cd)).trans (by simp[go_sem,World.frozen?_alloc_past,P,bi]);obtain⟨gf,gp,rfl⟩:=Gd O;have ap:=N4 (y:=line) e1.out eO cW.out dN.out cL.out F es.out eU dr.out (by simpa using O) (FR E);have J:=Z ap;clear ap O E F cm bi P;go_wp2
   go_ret;have eL:=(U.out.mono eC).trans (q.out.2.1.trans (I.out.2.1.trans J.out.2.1));have eS:=(GI U.out).trans (q.out.2.2.trans (I.out.2.2.trans J.out.2.2));exact⟨rfl,H7.whole J.out.1,eL,eS⟩
def G0(k:Int×Int×Int):Nat:=if k.1=0 then 0 else if k.2.1=0 then 1 else if k.2.2=0 then 2 else 3
def Gz(k:Int×Int×Int)(i:Nat):Int:=if i=0 then k.1 else if i=1 then k.2.1 else k.2.2
def FM(a:List ByteArray)(i:Nat):ByteArray:=a.getD i ByteArray.empty
def F6(line:Int)(k:Int×Int×Int)(a:List ByteArray):Nat->Nat->FJ->aV->Except Bool (FJ×aV)
 |0,_,st,X=> .ok (st,X)
 |f+1,i,st,X=>match Hb st X (Gz k i) (FM a i) line with
  |.ok (c,b)=>F6 line k a f (i+1) c b
  |.error t=> .error t
def H8(st:FJ):Except Bool aV->Except Bool FJ
 |.ok X=> .ok {st with code:=st.code++[X]}
 |.error t=> .error t
def Ig(n:Nat)(a:List ByteArray):Except Bool (FJ×aV)->Except Bool FJ
 |.ok (st,X)=>H8 st (if n<a.length then Gg X (FM a n)else .ok X)
 |.error t=> .error t
def Jc(op:Int):aV:=⟨op,0,0,0,0,0,0⟩
def GA(n:Nat)(a:List ByteArray):Bool:=decide (a.length≠n/\(a.length≠n+1∨Fz (FM a n) 0≠33))
def G9(st:FJ)(a:ByteArray)(rest:List ByteArray)(line:Int):Except Bool FJ:=
 if I7 a=0 then .error true
 else if GA (G0 (F' (I7 a))) rest then .error true
 else Ig (G0 (F' (I7 a))) rest (F6 line (F' (I7 a)) rest (G0 (F' (I7 a))) 0 st (Jc (I7 a)))
def N5(w:World)(a:Nat)(k:Int×Int×Int):Prop:=w.heap[a]?=some (.cells #[.int .i64 k.1,.int .i64 k.2.1,.int .i64 k.2.2] 349 (0,0))
theorem Iz(k:Int×Int×Int):G0 k<=3:=by
 rcases k with⟨a,b,c⟩
 simp only[G0];by_cases a=0<;>by_cases b=0<;>by_cases c=0<;>simp_all
theorem LG(K:Int×Int×Int)(k:Nat)(e:k<=G0 K)(d:k<3)(f:Gz K k=0):k=G0 K:=by
 rcases K with⟨a,b,c⟩
 have h:k=0∨k=1∨k=2:=by omega
 simp only[G0,Gz]at*;rcases h with rfl|rfl|rfl<;>by_cases a=0<;>by_cases b=0<;>by_cases c=0<;>simp_all
theorem N6(K:Int×Int×Int)(k:Nat)(e:k<=G0 K)(d:k<3)(f:¬Gz K k=0):k<G0 K:=by
 rcases K with⟨a,b,c⟩
 have h:k=0∨k=1∨k=2:=by omega
 simp only[G0,Gz]at*;rcases h with rfl|rfl|rfl<;>by_cases a=0<;>by_cases b=0<;>by_cases c=0<;>simp_all
theorem Im{B:Nat}{w w':World}(h:Below B w.drew w'):Below B w w':=⟨h.os,h.tape,h.output,h.size,h.block⟩
theorem LH(f:Bool×Bool×Bool×Bool):(0<=(Ht f).1/\(Ht f).1<=9)/\(0<=(Ht f).2.1/\(Ht f).2.1<=9)/\(0<=(Ht f).2.2/\(Ht f).2.2<=9):=by
 obtain⟨a,b,c,d⟩:=f;cases a<;>cases b<;>cases c<;>cases d<;>decide
theorem LJ(x:Int):(0<=(F' x).1/\(F' x).1<=9)/\(0<=(F' x).2.1/\(F' x).2.1<=9)/\(0<=(F' x).2.2/\(F' x).2.2<=9):=by
 unfold F'
 repeat(split;·decide)
 exact LH _
theorem LK{x:Int}{K:Int×Int×Int}{i:Nat}(g:i<G0 K)(d:F' x=K):1<=Gz K i/\Gz K i<=9:=by
 have h:=LJ x;rw[d]at h;have f:=Iz K;obtain⟨a,b,c⟩:=K;have e:i=0∨i=1∨i=2:=by omega
 simp only[G0,Gz]at*;rcases e with rfl|rfl|rfl<;>by_cases a=0<;>by_cases b=0<;>by_cases c=0<;>simp_all<;>omega
theorem FU.self{w:World}{B p d:Nat}{st:FJ}(h:FU w B p d st):FU w B p p st:=by
 obtain⟨g,f,i,j,c,b,e,a,_,rest⟩:=h;exact⟨g,f,i,j,c,b,e,a,FE a b (by decide),rest⟩
theorem MW:(prog.info? 184).map (fun i=>(i.zero,i.size,i.bytes))=some (some (.agg #[.int .i64 0,.int .i64 0,.int .i64 0,.int .i64 0,.int .u64 0,.int .i64 0,.int .i64 0]),7,56):=by kernel_rfl
theorem Jn(s:ByteArray)(c:s.size<=65536)(b:1<=s.size)(line:Int)(a:Nat)(X:aV)(r:Except Bool aV)(h:Gg X s=r)(w:World)(d:re w a X):
 Calls prog 190 #[.pointer (some ⟨a,0,none⟩),.string s,.int .i64 line] w (B1 r a line w):=by rw[<-h];exact MR s c b line a X w d
theorem MX{st a:FJ}{X b:aV}{kd line:Int}{y:ByteArray}(h:Hb st X kd y line=.ok (a,b)):a.bp.length<=st.bp.length+1/\a.code.length=st.code.length:=by
 unfold Hb at h;split at h
 ·injection h with h;injection h with h _;subst h;simp
 ·split at h
  ·cases h
  ·unfold IT at h
   split at h
   ·injection h with h;injection h with h _;subst h;simp
   ·cases h
theorem N5.cell{w:World}{a:Nat}{K:Int×Int×Int}(h:N5 w a K)(k:Nat)(b:k<3):w.cell? ⟨a,k,none⟩=some (.int .i64 (Gz K k)):=by
 rw[Fx h]
 match k,b with
 |0,_=>rfl
 |1,_=>rfl
 |2,_=>rfl
theorem LL(s:ByteArray)(x:s.size<=65536)(line:Int)(B p:Nat)(st:FJ)(w:World)(n:FU w B p p st)(t:B<=w.heap.size)(a:ByteArray)(rest:List ByteArray)(hw:Ge s=a::rest)
 (z:1<=a.size) (A:a.size<=65536) (b:rest≠[]∨Fz a (a.size-1)≠58) (u:rest.length<=65536) (Gf:I7 a=0):
 Calls prog 144 #[.pointer (some ⟨p,0,none⟩),.string s,.int .i64 line] w (F4 (.error true) B p line w):=by
 have y:=Z n;have r:=Z hw;have J:a.size-1<a.size:=by omega
 have q:=Z Gf;obtain⟨L,l⟩:=mn (rest.length+1);have D:1<=L:=by omega
 have E:L<=65537:=by omega
 have o:Hid (L=rest.length+1):=l;have f:((L:Int)==1)=false∨(((L:Int)==1)=true/\((a[a.size-1].toNat:Int)==58)=false):=by
  rcases Nat.eq_zero_or_pos rest.length with h|h
  ·refine Or.inr ⟨by rw[beq_iff_eq];omega,?_⟩
   rcases b with b|b
   ·exact absurd (List.eq_nil_of_length_eq_zero h) b
   ·rw[kT,beq_eq_false_iff_ne];exact b
  ·exact Or.inl (by rw[beq_eq_false_iff_ne];omega)
 clear n hw Gf l b u;go_enter func144,ntmps144
 go_wp2_with fail
 refine(GF s x w).mono ?_;rintro e w1 ⟨v,rfl,i,d⟩;rw[r.out]at i;obtain⟨g,cap,rfl,C,m,H,k⟩:=GD.H6 i (by simp);have c:(a::rest).length=L:=o.out.symm;rw[c];have t0:w1.cell? ⟨g,0,none⟩=some (.string a):=k.cell (j:=0) rfl;have I:g<w1.heap.size:=k.lt;have G:L<=cap:=by rw[<-c];exact m
 clear i k c m;rcases f with f|⟨f,F⟩
 all_goals
  go_wp2_with (first|(go_at_call 187;refine(Lb _ _).mono ?_;rintro e w' ⟨rfl,rfl⟩;rw[q.out])|(go_at_call 142;refine(FD _ _ _ _).mono ?_;rintro e w' ⟨rfl,rfl⟩))
  go_ret;exact F4.text rfl (by simp) ((d.mono t).alloc (by have:=d.size;omega) _) (by have:=d.size;simp;omega)
theorem MY(s:ByteArray)(lo:s.size<=65536)(line:Int)(B p:Nat)(st:FJ)(w:World)(i2:FU w B p p st)(fn:B<=w.heap.size)(f:ByteArray)(rest:List ByteArray)(hw:Ge s=f::rest)
 (mp:1<=f.size) (ms:f.size<=65536) (T:rest≠[]∨Fz f (f.size-1)≠58) (lm:rest.length<=65536) (i4:∀y∈rest,1<=y.size/\y.size<=65536) (Gf:I7 f≠0) (ob:st.bp.length<=1000000) (og:st.code.length<=1048576):
 Calls prog 144 #[.pointer (some ⟨p,0,none⟩),.string s,.int .i64 line] w (F4 (G9 st f rest line) B p line w):=by
 have ih:=Z i2;have ip:=Z hw;have pc:f.size-1<f.size:=by omega
 have i1:(I7 f==0)=false:=by rw[beq_eq_false_iff_ne];exact Gf
 have i9:=Z Gf;have eL:=Z i4;clear i4;obtain⟨K,hr⟩:=mn (F' (I7 f));have i8:=Z hr;clear hr;obtain⟨L,hu⟩:=mn (rest.length+1);have mC:1<=L:=by omega
 have mL:L<=65537:=by omega
 have hf:Hid (L=rest.length+1):=hu;have cm:((L:Int)==1)=false∨(((L:Int)==1)=true/\((f[f.size-1].toNat:Int)==58)=false):=by
  rcases Nat.eq_zero_or_pos rest.length with h|h
  ·refine Or.inr ⟨by rw[beq_iff_eq];omega,?_⟩
   rcases T with T|T
   ·exact absurd (List.eq_nil_of_length_eq_zero h) T
   ·rw[kT,beq_eq_false_iff_ne];exact T
  ·exact Or.inl (by rw[beq_eq_false_iff_ne];omega)
 clear i2 hw Gf hu T lm;go_enter func144,ntmps144
 go_wp2_with fail
 refine(GF s lo w).mono ?_;rintro e w1 ⟨v,rfl,ge,am⟩;rw[ip.out]at ge;obtain⟨g,cap,rfl,mA,hF,lb,cA⟩:=GD.H6 ge (by simp);have fz:(f::rest).length=L:=hf.out.symm;rw[fz];have t0:w1.cell? ⟨g,0,none⟩=some (.string f):=cA.cell (j:=0) rfl;have nq:g<w1.heap.size:=cA.lt;have ni:L<=cap:=by rw[<-fz];exact hF
 have i3:=cA;clear ge cA fz hF;obtain⟨x,cC⟩:=mn (I7 f);have no:(cap:Int)<=9223372036854775807:=by unfold maxLen at lb;omega
 have io:=Z i3;have p5:(x==0)=false:=by rw[cC];exact i1
 have ho:=Z cC;have ec:Hid (F' x=K):=by show _=_;rw[cC];exact i8.out.symm
 clear cC i1 i3;go_upto_region 5 with fail
 go_cut [37] (fun mc wc=>mc=.bool false/\wc=w1)
 case first=>
  rcases cm with cm|⟨cm,nc⟩
  all_goals
   go_wp2_with fail
   go_meet
   exact⟨rfl,rfl⟩
 case rest=>
  obtain⟨rfl,rfl⟩:=hcut;clear cm;go_upto_region 16 with(first|(go_at_call 187;refine(Lb _ _).mono ?_;rintro e w' ⟨rfl,rfl⟩;rw[<-ho.out])|fail)
  go_cut [7] (fun md c7=>∃X cd l:Nat,md=.slice (some ⟨g,X,none⟩) l cd/\l+1<=L/\L<=l+1/\(2<=L->X=1)/\l<=cd/\cd<=cap/\c7=wc.alloc (.cells #[.int .i64 x,.int .i64 0,.int .i64 0,.int .i64 0,.int .u64 0,.int .i64 0,.int .i64 0] 184))
  case first=>
   by_cases n8:cap<=1
   ·obtain rfl:cap=1:=by omega
    go_wp2_with fail
    all_goals(go_meet;exact⟨0,0,0,by first|rfl|rw[show L-1=0 from by omega],by omega,by omega,by omega,by omega,by omega,rfl⟩)
   ·go_wp2_with fail
    all_goals(go_meet;exact⟨1,_,L-1,rfl,by omega,by omega,by omega,by omega,by omega,rfl⟩)
  case rest=>
   obtain⟨X,cd,l,rfl,mS,mW,gc,nd,ne,rfl⟩:=hcut;have n2:=am.size;obtain⟨b,cl⟩:=mn wc.heap.size;rw[<-cl];have m:Hid (re (wc.alloc (.cells #[.int .i64 x,.int .i64 0,.int .i64 0,.int .i64 0,.int .u64 0,.int .i64 0,.int .i64 0] 184)) b (Jc x)):=by
    rw[cl];exact hs
   have cL:=Z cl;clear cl;have c5:(wc.alloc (.cells #[.int .i64 x,.int .i64 0,.int .i64 0,.int .i64 0,.int .u64 0,.int .i64 0,.int .i64 0] 184)).cell? ⟨b,0,none⟩=some (.int .i64 x):=m.out.cell 0;go_upto_region 18 with(first|(go_at_call 188;refine(JH _ _).mono ?_;rintro e w' ⟨rfl,ab⟩;rw[ec.out])|fail)
   obtain⟨eU,fK⟩:=mn (w'.heap.size);rw[<-fK];obtain⟨wd,c2⟩:=nm (w'.alloc (.cells #[.int .i64 K.1,.int .i64 K.2.1,.int .i64 K.2.2] 349));rw[c2];have ci:Below wc.heap.size wc wd:=by
    rw[<-c2];exact((((Below.refl _ wc).alloc (Nat.le_refl _) _).trans (ab.mono (by simp))).alloc (by have:=ab.size;simp at this;omega) _)
   have i6:re wd b (Jc x):=by
    have k4:Below (wc.heap.size+1) (wc.alloc (.cells #[.int .i64 x,.int .i64 0,.int .i64 0,.int .i64 0,.int .u64 0,.int .i64 0,.int .i64 0] 184)) wd:=by
     rw[<-c2];exact((ab.mono (by simp)).alloc (by have:=ab.size;simp at this;omega) _)
    unfold re;rw[k4.block b (by rw[cL.out];omega)];exact m.out
   have G:N5 wd eU K:=(by rw[<-c2,fK];exact hs);have Y:=Z ci;have it:=Z i6;have gR:=Z G;have fE:B<=b:=(by rw[cL.out];omega);have ii:Hid (FU wd B p b st):=((ih.out.below am).fresh b (by rw[cL.out];exact Nat.le_refl _)).below ci;have eA:Hid (GD wd g (f::rest)):=io.out.keep (GI ci);clear ci i6 G c2 ab c5 m fK;go_upto_block 0 with fail
   go_cut [13] (fun l' c7=>l'=.int .i64 (G0 K)/\wd=c7)
   case first=>
    go_wp2_with fail
    go_loop [13] (fun n=>∃k:Nat,k<=G0 K/\n=.int .i64 k) (fun n=>4-(intOf n).toNat)
    case atStart=>exact⟨0,Nat.zero_le _,rfl⟩
    case round=>
     obtain⟨k,i0,rfl⟩:=hrel;have nC:=Iz K;by_cases fd:k<3
     ·have hq:=gR.out.cell k fd
      by_cases W:Gz K k=0
      ·have lt:(Gz K k !=0)=false:=by rw[bne_eq_false_iff_eq];exact W
       have cq:Hid (k=G0 K):=LG K k i0 fd W;clear W;go_wp2
       all_goals(go_meet;exact⟨by rw[cq.out],rfl⟩)
      ·have lt:(Gz K k !=0)=true:=by rw[bne_iff_ne];exact W
       have cq:=N6 K k i0 fd W;clear W;go_wp2
       all_goals
        go_round
        case rel=>exact⟨k+1,by omega,by go_num⟩
        case measure=>simp[intOf];omega
     ·have cq:Hid (k=G0 K):=by show _=_;omega
      go_wp2
      all_goals(go_meet;exact⟨by rw[cq.out],rfl⟩)
   case rest=>
    obtain⟨rfl,rfl⟩:=hcut;obtain⟨n,ct⟩:=mn (G0 K);rw[<-ct];have ok:n<=3:=(by rw[ct];exact Iz K);have hi:=Z ct;have hv:rest.length=l:=(by have:=hf.out;omega);have C:=Z hv;clear ct hv;go_upto_region 21 with fail
    go_cut [152] (fun s c7=>s=.bool (GA n rest)/\wd=c7)
    case first=>
     by_cases Q:l=n
     ·have jp:((l:Int) !=(n:Int))=false:=by rw[bne_eq_false_iff_eq];omega
      have c8:Hid (GA n rest=false):=(by show _=_;unfold GA;rw[decide_eq_false_iff_not];intro h;exact h.1 (C.out.trans Q));clear Q;go_wp2
      all_goals(go_meet;exact⟨by rw[c8.out],rfl⟩)
     ·have jp:((l:Int) !=(n:Int))=true:=by rw[bne_iff_ne];omega
      by_cases eY:l=n+1
      ·obtain rfl:X=1:=gc (by omega)
       have q:(rest)[n]?=some (FM rest n):=by
        unfold FM;rw[List.getD_eq_getElem?_getD,List.getElem?_eq_getElem (by rw[C.out];omega)];rfl
       have u:=(eL.out (FM rest n) (List.mem_of_getElem? q)).1;have ce:wd.cell? ⟨g,1+n,none⟩=some (.string (FM rest n)):=by
        rw[Nat.add_comm];exact eA.out.cell (j:=n+1) q
       have k0:((l:Int) !=(n:Int)+1)=false:=(by rw[bne_eq_false_iff_eq];omega);have on:n<l:=(by omega);have p6:0<(FM rest n).size:=(by omega);have c8:Hid (GA n rest=decide (Fz (FM rest n) 0≠33)):=by
        show _=_;unfold GA;rw[decide_eq_decide,C.out];exact⟨fun h=>(h.2.resolve_left (by omega)),fun h=>⟨Q,Or.inr h⟩⟩
       have mk:=Z q;clear Q eY q;by_cases R:Fz (FM rest n) 0=33
       ·have k1:(((FM rest n)[0].toNat:Int) !=33)=false:=by rw[kT,bne_eq_false_iff_eq];exact R
        have a0:Hid (GA n rest=false):=(by show _=_;rw[c8.out,decide_eq_false_iff_not];exact fun h=>h R);clear R;go_wp2
        all_goals(go_meet;exact⟨by rw[a0.out],rfl⟩)
       ·have k1:(((FM rest n)[0].toNat:Int) !=33)=true:=by rw[kT,bne_iff_ne];exact R
        have a0:Hid (GA n rest=true):=(by show _=_;rw[c8.out,decide_eq_true_eq];exact R);clear R;go_wp2
        all_goals(go_meet;exact⟨by rw[a0.out],rfl⟩)
      ·have k0:((l:Int) !=(n:Int)+1)=true:=by rw[bne_iff_ne];omega
       have a0:Hid (GA n rest=true):=(by show _=_;unfold GA;rw[decide_eq_true_eq,C.out];exact⟨Q,Or.inl eY⟩);clear Q eY;go_wp2
       all_goals(go_meet;exact⟨by rw[a0.out],rfl⟩)
    case rest=>
     obtain⟨rfl,rfl⟩:=hcut;have eC:Hid (G9 st f rest line=if GA n rest then .error true else Ig n rest (F6 line K rest n 0 st (Jc x))):=by
      show _=_
      unfold G9;rw[if_neg i9.out,<-ho.out,ec.out,<-hi.out]
     by_cases S:GA n rest=true
     ·have a3:Hid (G9 st f rest line=.error true):=by show _=_;rw[eC.out,if_pos S]
      rw[S];clear S;go_wp2_with (go_at_call 142;refine(FD _ _ _ _).mono ?_;rintro e w' ⟨rfl,rfl⟩)
      go_ret;exact F4.text a3.out (by simp) ((am.mono fn).trans (Y.out.mono (by omega))) (by have:=Y.out.size;omega)
     ·have g4:GA n rest=false:=by simpa using S
      have a3:Hid (G9 st f rest line=Ig n rest (F6 line K rest n 0 st (Jc x))):=(by show _=_;rw[eC.out,if_neg S]);have ch:l=n∨l=n+1:=by
       have h:=of_decide_eq_false g4;rw[C.out]at h;omega
      clear S eC;have n0:n<=l:=(by omega);have n1:l<=n+1:=(by omega);clear ch;have gJ:Hid (Below w.heap.size w wd):=am.trans (Y.out.mono (by omega));have os:=Y.out.size;have p4:B<=wd.heap.size:=(by omega);rw[g4];clear g4;go_wp2_with fail
      go_loopw [157] (fun mb wr=>∃(i:Nat) (d:FJ) (a:aV),i<=n/\mb=.int .i64 i/\FU wr B p b d/\re wr b a/\Below B wd wr/\Gm wd wr/\d.bp.length<=1000000+i/\Hid (d.code.length=st.code.length)/\Hid (F6 line K rest (n-i) i d a=F6 line K rest n 0 st (Jc x))) (fun s _=>4-(intOf s).toNat)
      case atStart=>exact⟨0,st,Jc x,by omega,rfl,ii.out,it.out,Below.refl _ _,Gm.refl _,by omega,rfl,rfl⟩
      case round=>
       obtain⟨i,d,a,nw,rfl,c1,c4,ad,U,p3,dr,c9⟩:=hrel;have ov:=ad.size;by_cases lc:i<n
       ·have nx:i<l:=by omega
        obtain rfl:X=1:=gc (by omega);have q:rest[i]?=some (FM rest i):=by
         unfold FM;rw[List.getD_eq_getElem?_getD,List.getElem?_eq_getElem (by rw[C.out];omega)];rfl
        have u:=(eL.out (FM rest i) (List.mem_of_getElem? q)).2;have ce:wr.cell? ⟨g,1+i,none⟩=some (.string (FM rest i)):=by
         rw[Nat.add_comm];exact(eA.out.keep U).cell (j:=i+1) q
        have hq:wr.cell? ⟨eU,i,none⟩=some (.int .i64 (Gz K i)):=N5.cell (U eU _ 349 _ (Or.inr (Or.inr rfl)) gR.out) i (by omega);obtain⟨kd,G⟩:=mn (Gz K i);obtain⟨y,N⟩:=mn (FM rest i);rw[<-G]at hq;rw[<-N]at ce u;have gb:1<=kd/\kd<=9:=(by rw[G];exact LK (by rw[<-hi.out];exact lc) ec.out);have A:=Z (Kd y u kd line gb.1 gb.2 B p b d a wr.drew c4 c1 fE (by omega));have dN:Hid (F6 line K rest (n-i) i d a=match Hb d a kd y line with|.ok (c6,c)=>F6 line K rest (n-(i+1)) (i+1) c6 c|.error t=> .error t):=by
         show _=_
         rw[show n-i=(n-(i+1))+1 from by omega,F6,<-G,<-N]
        have ex:=Z c1;have m:=Z c4;have P:=Z ad;have a1:=Z U;have ls:(i:Int)<(l:Int):=(by omega);have p8:(0:Int)<=(i:Int):=(by omega);have pa:(i:Int)<3:=(by omega);clear c1 c4 ad U gb G N q;go_wp2_with fail
        go_still_tail 9,(by kernel_rfl)
        change wpList _ _ _ _ _ wr.drew;rcases I:Hb d a kd y line with tt|⟨c6,c⟩
        ·have cW:Hid (Calls prog 189 #[.pointer (some ⟨p,0,none⟩),.pointer (some ⟨b,0,none⟩),.int .i64 kd,.string y,.int .i64 line] wr.drew (Gt (.error tt) B p b line wr.drew)):=by
          have h:=A.out;rw[I]at h;exact h
         have E:Hid (G9 st f rest line=.error tt):=by
          show _=_;rw[a3.out,<-c9.out,dN.out,I];rfl
         clear I A;go_wp2_with (go_at_call 189;refine cW.out.mono ?_;rintro e w' ⟨v,rfl,⟨iv,inner,rfl,hB,g2,gk⟩,kw⟩)
         go_ret;rw[E.out];exact⟨_,rfl,⟨_,_,rfl,hB,g2,gk⟩,(gJ.out.mono fn).trans (P.out.trans (Im kw))⟩
        ·have cW:Hid (Calls prog 189 #[.pointer (some ⟨p,0,none⟩),.pointer (some ⟨b,0,none⟩),.int .i64 kd,.string y,.int .i64 line] wr.drew (Gt (.ok (c6,c)) B p b line wr.drew)):=by
          have h:=A.out;rw[I]at h;exact h
         have i7:Hid (F6 line K rest (n-i) i d a=F6 line K rest (n-(i+1)) (i+1) c6 c):=by
          show _=_;rw[dN.out,I]
         have hj:=Z (MX I);clear I A dN;go_wp2_with (go_at_call 189;refine cW.out.mono ?_;rintro e w' ⟨rfl,ll,lp,kf,le⟩)
         go_roundw
         case rel=>exact⟨i+1,c6,c,by omega,by go_num,ll,lp,P.out.trans (Im kf),a1.out.trans le,by have:=hj.out.1;omega,hj.out.2.trans dr.out,by show _=_;rw[<-i7.out];exact c9.out⟩
         case measure=>simp[intOf];omega
       ·obtain rfl:n=i:=by omega
        have gL:Hid (F6 line K rest n 0 st (Jc x)=.ok (d,a)):=by
         have h:=c9.out;rw[Nat.sub_self,F6]at h;exact h.symm
        have cb:Hid (G9 st f rest line=H8 d (if n<l then Gg a (FM rest n)else .ok a)):=by
         show _=_;rw[a3.out,gL.out];unfold Ig;rw[C.out]
        have ex:=Z c1;have m:=Z c4;have P:=Z ((gJ.out.mono fn).trans ad);have a1:=Z U;have he:Hid (Gm w wd):=(GI am).trans (GI Y.out);clear c1 c4 ad U c9 a3 gL;by_cases ch:n<l
        ·obtain rfl:X=1:=gc (by omega)
         have q:rest[n]?=some (FM rest n):=by
          unfold FM;rw[List.getD_eq_getElem?_getD,List.getElem?_eq_getElem (by rw[C.out];omega)];rfl
         have u:=eL.out (FM rest n) (List.mem_of_getElem? q);have ce:wr.cell? ⟨g,1+n,none⟩=some (.string (FM rest n)):=by
          rw[Nat.add_comm];exact(eA.out.keep a1.out).cell (j:=n+1) q
         have hm:Hid (G9 st f rest line=H8 d (Gg a (FM rest n))):=(by show _=_;rw[cb.out,if_pos ch]);obtain⟨y,N⟩:=mn (FM rest n);rw[<-N]at ce u;have hn:Hid (G9 st f rest line=H8 d (Gg a y)):=(by show _=_;rw[N];exact hm.out);clear N q cb hm;have ls:(n:Int)<(l:Int):=(by omega);rcases V:Gg a y with tt|c
         ·have A:=Z (Jn y u.2 u.1 line b a _ V wr m.out)
          have E:Hid (G9 st f rest line=.error tt):=(by show _=_;rw[hn.out,V];rfl);clear V u;go_wp2_with (go_at_call 190;refine A.out.mono ?_;rintro e w' ⟨v,rfl,⟨iv,inner,rfl,hB,g2,gk⟩,ap⟩)
          go_ret;rw[E.out];exact⟨_,rfl,⟨_,_,rfl,by omega,g2,gk⟩,P.out.trans (HC fE m.out.lt ap)⟩
         ·have A:=Z (Jn y u.2 u.1 line b a _ V wr m.out)
          have E:Hid (G9 st f rest line=.ok {d with code:=d.code++[c]}):=(by show _=_;rw[hn.out,V];rfl);clear V u;go_wp2_with (first|(go_at_call 190;refine A.out.mono ?_;rintro e w' ⟨rfl,i5,ap⟩)|fail)
          have D:=Z i5;have dC:=Z ap;have ow:=ap.size;clear i5 ap;have eS:=(ex.out.grown m.out dC.out).self;obtain⟨r,gt,gA,gC,eW,o,fo,H,bv,al,bw,c3,fT,bi⟩:=eS;have c5:w'.cell? ⟨p,0,none⟩=some r:=Fx o;have fb:w'.frozen? ⟨p,0,none⟩=false:=HD o;have x0:w'.cell? ⟨b,0,none⟩=some (.int .i64 c.op):=(D.out).cell 0;have x1:w'.cell? ⟨b,1,none⟩=some (.int .i64 c.a):=(D.out).cell 1;have x2:w'.cell? ⟨b,2,none⟩=some (.int .i64 c.b):=(D.out).cell 2;have x3:w'.cell? ⟨b,3,none⟩=some (.int .i64 c.c):=(D.out).cell 3;have x4:w'.cell? ⟨b,4,none⟩=some (.int .u64 c.v):=(D.out).cell 4;have x5:w'.cell? ⟨b,5,none⟩=some (.int .i64 c.m):=(D.out).cell 5;have x6:w'.cell? ⟨b,6,none⟩=some (.int .i64 c.wh):=(D.out).cell 6;have J:p<w'.heap.size:=(Array.getElem?_eq_some_iff.1 o).1;have l0:b<w'.heap.size:=(D.out).lt;have M:r.ownBlock≠some p:=FE H o (by decide);obtain⟨gs,av,go,gp,gr⟩:=info_parts MW;have e1:=Z av;have a2:=Z o;have es:=Z bv;have cS:=Z al;have et:=Z bw;have eO:=Z c3;have en:=Z bi;have l1:d.code.length<=1048576:=(by have:=dr.out;omega);have k5:B<=w'.heap.size:=(by omega);clear av o bv al bw c3 bi;go_wp2_with fail
          go_region_law (first|(refine step_append_lies _ (by rfl) _ _ _ (by rfl) B 184 gs _ 7 56 underlying75 e1.out go gp gr rfl (by omega) r d.code.length (b' d.code) (by rfl) ((H.alloc _).drew) ⟨w'.heap.size,0,none⟩ 1 1 [.int .i64 c.op,.int .i64 c.a,.int .i64 c.b,.int .i64 c.c,.int .u64 c.v,.int .i64 c.m,.int .i64 c.wh] (by rfl) (by rfl) (World.news_of_block (cs:=#[.int .i64 c.op,.int .i64 c.a,.int .i64 c.b,.int .i64 c.c,.int .u64 c.v,.int .i64 c.m,.int .i64 c.wh]) (t:=184) (fr:=(0,0)) (heap_alloc_new w' _)) (by simp[Value.oneCell']) (by omega) (by unfold maxLen;omega) (by omega) (by simp;omega) (w'.heap.size+1) (by simp) ?_;intro k3 k2 O c0 z kb li;have lv:O.cell? ⟨p,0,none⟩=some r:=(z.cell_far ⟨p,0,none⟩ (by simp;omega) (Ne.symm M)).trans (by simp[go_sem,World.cell?_alloc_past,J,c5]);have lw:O.frozen? ⟨p,0,none⟩=false:=(z.frozen_far ⟨p,0,none⟩ (by simp;omega) (Ne.symm M)).trans (by simp[go_sem,World.frozen?_alloc_past,J,fb])))
          all_goals
           go_wp2
           go_ret;have gf:O.heap[p]?=some (.cells #[r,gt,gA,.map (some eW),gC] 296 (0,0)):=by
            rw[(FR (F3 z)).block p J (Ne.symm M)];exact a2.out
           have F:=Lc (y:=c) a2.out fo H es.out cS.out et.out eO.out fT en.out (by simpa[aC]using c0) (FR (F3 z)) (FE c0 gf (by decide));rw[E.out];exact⟨rfl,H7.whole (st:={d with code:=d.code++[c]}) F.1,(P.out.trans (HC fE m.out.lt dC.out)).trans F.2.1,((he.out.trans a1.out).trans (Jl m.out dC.out)).trans F.2.2⟩
        ·have E:Hid (G9 st f rest line=.ok {d with code:=d.code++[a]}):=by show _=_;rw[cb.out,if_neg ch];rfl
         clear cb;have eS:=(ex.out).self;obtain⟨r,gt,gA,gC,eW,o,fo,H,bv,al,bw,c3,fT,bi⟩:=eS;have c5:wr.cell? ⟨p,0,none⟩=some r:=Fx o;have fb:wr.frozen? ⟨p,0,none⟩=false:=HD o;have x0:wr.cell? ⟨b,0,none⟩=some (.int .i64 a.op):=(m.out).cell 0;have x1:wr.cell? ⟨b,1,none⟩=some (.int .i64 a.a):=(m.out).cell 1;have x2:wr.cell? ⟨b,2,none⟩=some (.int .i64 a.b):=(m.out).cell 2;have x3:wr.cell? ⟨b,3,none⟩=some (.int .i64 a.c):=(m.out).cell 3;have x4:wr.cell? ⟨b,4,none⟩=some (.int .u64 a.v):=(m.out).cell 4;have x5:wr.cell? ⟨b,5,none⟩=some (.int .i64 a.m):=(m.out).cell 5;have x6:wr.cell? ⟨b,6,none⟩=some (.int .i64 a.wh):=(m.out).cell 6;have J:p<wr.heap.size:=(Array.getElem?_eq_some_iff.1 o).1;have l0:b<wr.heap.size:=(m.out).lt;have M:r.ownBlock≠some p:=FE H o (by decide);obtain⟨gs,av,go,gp,gr⟩:=info_parts MW;have e1:=Z av;have a2:=Z o;have es:=Z bv;have cS:=Z al;have et:=Z bw;have eO:=Z c3;have en:=Z bi;have l1:d.code.length<=1048576:=(by have:=dr.out;omega);have k5:B<=wr.heap.size:=(by omega);clear av o bv al bw c3 bi;go_wp2_with fail
         go_region_law (first|(refine step_append_lies _ (by rfl) _ _ _ (by rfl) B 184 gs _ 7 56 underlying75 e1.out go gp gr rfl (by omega) r d.code.length (b' d.code) (by rfl) ((H.alloc _).drew) ⟨wr.heap.size,0,none⟩ 1 1 [.int .i64 a.op,.int .i64 a.a,.int .i64 a.b,.int .i64 a.c,.int .u64 a.v,.int .i64 a.m,.int .i64 a.wh] (by rfl) (by rfl) (World.news_of_block (cs:=#[.int .i64 a.op,.int .i64 a.a,.int .i64 a.b,.int .i64 a.c,.int .u64 a.v,.int .i64 a.m,.int .i64 a.wh]) (t:=184) (fr:=(0,0)) (heap_alloc_new wr _)) (by simp[Value.oneCell']) (by omega) (by unfold maxLen;omega) (by omega) (by simp;omega) (wr.heap.size+1) (by simp) ?_;intro k3 k2 O c0 z kb li;have lv:O.cell? ⟨p,0,none⟩=some r:=(z.cell_far ⟨p,0,none⟩ (by simp;omega) (Ne.symm M)).trans (by simp[go_sem,World.cell?_alloc_past,J,c5]);have lw:O.frozen? ⟨p,0,none⟩=false:=(z.frozen_far ⟨p,0,none⟩ (by simp;omega) (Ne.symm M)).trans (by simp[go_sem,World.frozen?_alloc_past,J,fb])))
         all_goals
          go_wp2
          go_ret;have gf:O.heap[p]?=some (.cells #[r,gt,gA,.map (some eW),gC] 296 (0,0)):=by
           rw[(FR (F3 z)).block p J (Ne.symm M)];exact a2.out
          have F:=Lc (y:=a) a2.out fo H es.out cS.out et.out eO.out fT en.out (by simpa[aC]using c0) (FR (F3 z)) (FE c0 gf (by decide));rw[E.out];exact⟨rfl,H7.whole (st:={d with code:=d.code++[a]}) F.1,P.out.trans F.2.1,(he.out.trans a1.out).trans F.2.2⟩
def Kf(st:FJ)(nm:ByteArray)(line:Int):Except Bool FJ:=
 match F5 st.labels nm 0 with
 |some _=> .error true
 |none=>if GN nm then .ok {st with labels:=st.labels++[(nm,(st.code.length:Int))],lines:=st.lines++[line]}else .error true
def IW(st:FJ)(line:Int):List ByteArray->Except Bool FJ
 |[]=> .ok st
 |a::rest=>if rest=[]/\Fz a (a.size-1)=58 then Kf st (a.extract 0 (a.size-1)) line else G9 st a rest line
def IX(st:FJ)(s:ByteArray)(line:Int):Except Bool FJ:=IW st line (Ge s)
theorem MZ(s:ByteArray)(C:s.size<=65536)(line:Int)(B p:Nat)(st:FJ)(w:World)(c:FU w B p p st)(b:B<=w.heap.size)
 (x:st.bp.length<=1000000) (k:st.code.length<=1048576) (z:st.labels.length<=1048576) (A:st.lines.length<=1048576):
 Calls prog 144 #[.pointer (some ⟨p,0,none⟩),.string s,.int .i64 line] w (F4 (IX st s line) B p line w):=by
 have d:s.size<=65536:=by omega
 obtain⟨i,q⟩:=Ke s;unfold IX;rcases hw:Ge s with _|⟨a,rest⟩
 ·exact LF s d line B p st w c b hw
 ·rw[hw]at i q
  have f:=i a (by simp);have t:rest.length<=65536:=by simp at q;omega
  by_cases l:rest=[]/\Fz a (a.size-1)=58
  ·obtain⟨rfl,g⟩:=l
   have e:IW st line [a]=Kf st (a.extract 0 (a.size-1)) line:=if_pos ⟨rfl,g⟩;rw[e];unfold Kf;rcases m:F5 st.labels (a.extract 0 (a.size-1)) 0 with _|j
   ·by_cases n:GN (a.extract 0 (a.size-1))=true
    ·simp only[n,if_true]
     exact KB s d line B p st w c b a hw f.1 (by omega) g m n z A
    ·have r:GN (a.extract 0 (a.size-1))=false:=by simpa using n
     simp only[r,Bool.false_eq_true,if_false];exact JJ s d line B p st w c b a hw f.1 (by omega) g m r
   ·exact KA s d line B p st w c b a hw f.1 (by omega) g j m
  ·have e:IW st line (a::rest)=G9 st a rest line:=if_neg l
   rw[e];have o:rest≠[]∨Fz a (a.size-1)≠58:=by
    by_cases h:rest=[]
    ·exact Or.inr fun k=>l ⟨h,k⟩
    ·exact Or.inl h
   by_cases Gf:I7 a=0
   ·have v:G9 st a rest line=.error true:=if_pos Gf
    rw[v];exact LL s d line B p st w c b a rest hw f.1 (by omega) o t Gf
   ·exact MY s d line B p st w c b a rest hw f.1 (by omega) o t (fun y u=>⟨(i y (by simp[u])).1,by have:=(i y (by simp[u])).2;omega⟩) Gf x k
structure KD(st:FJ):Prop where
 same:st.labels.length=st.lines.length
 want:∀x∈st.bp,0<=x.1/\x.1<st.code.length
 Nf:∀b∈st.labels,0<=b.2/\b.2<=st.code.length
structure KE(st st':FJ):Prop where
 code:st'.code.length<=st.code.length+1
 labels:st'.labels.length<=st.labels.length+1
 lines:st'.lines.length<=st.lines.length+1
 bp:st'.bp.length<=st.bp.length+3
theorem KF{st a:FJ}{X b:aV}{kd line:Int}{y:ByteArray}(h:Hb st X kd y line=.ok (a,b)):
 a.code=st.code/\a.labels=st.labels/\a.lines=st.lines/\(a.bp=st.bp∨a.bp=st.bp++[((st.code.length:Int),line,y)]):=by
 unfold Hb at h;split at h
 ·injection h with h;injection h with h _;subst h;exact⟨rfl,rfl,rfl,Or.inr rfl⟩
 ·split at h
  ·cases h
  ·unfold IT at h
   split at h
   ·injection h with h;injection h with h _;subst h;exact⟨rfl,rfl,rfl,Or.inl rfl⟩
   ·cases h
theorem H9(line:Int)(K:Int×Int×Int)(e:List ByteArray):∀(f i:Nat) (st:FJ) (X:aV) (b:FJ) (c:aV),F6 line K e f i st X=.ok (b,c)->
 b.code=st.code/\b.labels=st.labels/\b.lines=st.lines/\b.bp.length<=st.bp.length+f/\(∀x∈b.bp,x∈st.bp∨x.1=st.code.length)
 |0,i,st,X,b,c,h=>by
  unfold F6 at h;injection h with h;injection h with h _;subst h
  exact⟨rfl,rfl,rfl,by omega,fun x a=>Or.inl a⟩
 |f+1,i,st,X,b,c,h=>by
  unfold F6 at h;split at h
  ·rename_i o g n
   obtain⟨a1,a2,a3,a4⟩:=KF n;obtain⟨j,k,l,d,m⟩:=H9 line K e f (i+1) o g b c h;refine⟨j.trans a1,k.trans a2,l.trans a3,?_,fun x a=> ?_⟩
   ·rcases a4 with a4|a4
    ·rw[a4]at d;omega
    ·rw[a4]at d;simp at d;omega
   ·rcases m x a with a|a
    ·rcases a4 with a4|a4
     ·rw[a4]at a;exact Or.inl a
     ·rw[a4]at a
      rcases List.mem_append.1 a with a|a
      ·exact Or.inl a
      ·have:=List.mem_singleton.1 a;subst this;exact Or.inr rfl
    ·exact Or.inr (by rw[a,a1])
  ·cases h
theorem N7{st j:FJ}{c:ByteArray}{rest:List ByteArray}{line:Int}(i:KD st)(h:G9 st c rest line=.ok j):KD j/\KE st j:=by
 unfold G9 at h;split at h
 ·cases h
 ·split at h
  ·cases h
  ·rcases g:F6 line (F' (I7 c)) rest (G0 (F' (I7 c))) 0 st (Jc (I7 c))with t|⟨d,m⟩
   ·rw[g]at h;cases h
   ·rw[g]at h
    obtain⟨e,f,k,n,l⟩:=H9 _ _ _ _ _ _ _ _ _ g;have o:=Iz (F' (I7 c));have key:∀X,KD {d with code:=d.code++[X]}/\KE st {d with code:=d.code++[X]}:=by
     intro X;refine⟨⟨by rw[f,k];exact i.same,fun x a=> ?_,fun b hb=> ?_⟩,⟨by simp[e],by simp[f],by simp[k],by simp;omega⟩⟩
     ·simp only[List.length_append,List.length_singleton,e]
      rcases l x a with a|a
      ·have:=i.want x a;exact⟨this.1,by push_cast;omega⟩
      ·rw[a];exact⟨by omega,by push_cast;omega⟩
     ·simp only[List.length_append,List.length_singleton,e]
      have hb:b∈st.labels:=(by rw[<-f];exact hb);have:=i.Nf b hb;exact⟨this.1,by push_cast;omega⟩
    unfold Ig H8 at h;dsimp only at h;split at h
    ·rename_i X _
     injection h with h;subst h;exact key X
    ·cases h
theorem M0{st d:FJ}{s:ByteArray}{line:Int}(a:KD st)(h:IX st s line=.ok d):KD d/\KE st d:=by
 unfold IX at h;rcases hw:Ge s with _|⟨c,rest⟩
 ·rw[hw]at h
  unfold IW at h;injection h with h;subst h
  exact⟨a,⟨by omega,by omega,by omega,by omega⟩⟩
 ·rw[hw]at h
  replace h:(if rest=[]/\Fz c (c.size-1)=58 then Kf st (c.extract 0 (c.size-1)) line else G9 st c rest line)=.ok d:=h
  split at h
  ·unfold Kf at h
   split at h
   ·cases h
   ·split at h
    ·injection h with h;subst h
     refine⟨⟨by simp[a.same],a.want,fun b hb=> ?_⟩,⟨by simp,by simp,by simp,by simp⟩⟩;rcases List.mem_append.1 hb with hb|hb
     ·exact a.Nf b hb
     ·have:=List.mem_singleton.1 hb;subst this;exact⟨by dsimp only;omega,by dsimp only;omega⟩
    ·cases h
  ·exact N7 a h
def GB:List ByteArray->Int->FJ->Except (Bool×Int) FJ
 |[],_,st=> .ok st
 |l::a,i,st=>match IX st l i with
  |.ok b=>GB a (i+1) b
  |.error t=> .error (t,i)
def Fa(code:List aV)(at_:Nat)(v:Int):List aV:=code.modify at_ fun X=>{X with v:=v}
def M1(l:List (ByteArray×Int))(j:Nat):Int:=((l[j]?).map (·.2)).getD 0
def G6(labels:List (ByteArray×Int)):List (Int×Int×ByteArray)->List aV->Option (List aV)
 |[],code=>some code
 |x::a,code=>match F5 labels x.2.2 0 with
  |some j=>G6 labels a (Fa code x.1.toNat (M1 labels j))
  |none=>none
def Hc:FJ:=⟨[],[],[],[]⟩
def GY(st:FJ):Option (List aV×List (ByteArray×Int)):=
 match G6 st.labels st.bp st.code with
 |none=>none
 |some code=>if 2048<code.length then none else if st.labels.any (fun b=>b.2==(code.length:Int))then none else some (code,st.labels)
def G7(a:List ByteArray):Except (Bool×Int) (List aV×List (ByteArray×Int)):=
 match GB a 0 Hc with
 |.error t=> .error t
 |.ok st=>match GY st with
  |some r=> .ok r
  |none=> .error (false,0)
def OS:ByteArray:=⟨#[10]⟩
def GJ(s:ByteArray):List ByteArray:=Lib.splitB OS 0 (Lib.countB s OS) s
def GL(s:ByteArray):Except (Bool×Int) (List aV×List (ByteArray×Int)):=G7 (GJ s)
theorem Io(sep:ByteArray):∀(k:Nat) (s:ByteArray),∀x∈Lib.splitB sep 0 k s,x.size<=s.size
 |0,s,x,a=>by have:=List.mem_singleton.1 a;subst this;exact Nat.le_refl _
 |k+1,s,x,a=>by
  unfold Lib.splitB at a;split at a
  ·have:=List.mem_singleton.1 a;subst this;exact Nat.le_refl _
  ·rcases List.mem_cons.1 a with rfl|a
   ·simp;omega
   ·have:=Io sep k _ x a
    simp at this;omega
theorem H'(s:ByteArray):(GJ s).length=Lib.countB s OS+1:=Lib.splitB_all OS (by decide) 0 _ s rfl
theorem Kg(s:ByteArray):(GJ s).length<=s.size+1:=by
 rw[H'];have:=Lib.countB_le OS (by decide) s.size s (Nat.le_refl _);omega
def Pq(r:Except (Bool×Int) (List aV×List (ByteArray×Int)))(w:World)(e:Ending)(w':World):Prop:=
 match r with
 |.ok (code,labels)=>∃b a,e=.returned (.tuple #[b,a,.nilIface])/\w'.ownsRow w.heap.size 184 7 b code.length (b' code)/\w'.ownsRow w.heap.size 301 2 a labels.length (FZ labels)/\Below w.heap.size w w'
 |.error (t,i)=>∃line v,e=.returned (.tuple #[.slice none 0 0,.slice none 0 0,v])/\IQ w' w.heap.size line t v/\(t=true->line=i)/\Below w.heap.size w w'
theorem M2:KD Hc:=⟨rfl,(fun x a=>by cases a),(fun x a=>by cases a)⟩
theorem GZ{w:World}{B:Nat}{e:TypeId}{size g n c:Nat}{d:List Value}(h:w.ownsRow B e size (.slice (some ⟨g,0,none⟩) n c) n d):
 ∃cur:Array Value,w.heap[g]?=some (.cells cur e (0,0))/\n<=c/\c<=maxLen/\cur.size=c*size/\cur.toList.take (n*size)=d/\B<=g/\d.length=n*size:=by
 rcases h.2 with⟨b,_⟩|⟨g',cap,cur,b,i,k,j,l,m,o⟩
 ·cases b
 ·injection b with a p f
  injection a with a
  injection a with a _ _
  subst a;subst f;exact⟨cur,k,j,l,m,o,i,h.1⟩
theorem Hd{w:World}{B:Nat}{e:TypeId}{size n:Nat}{v:Value}{a:List Value}(h:w.ownsRow B e size v n a)(d:0<n):∃g c,v=.slice (some ⟨g,0,none⟩) n c:=by
 rcases h.2 with⟨_,b⟩|⟨g,cap,cur,rfl,_⟩
 ·omega
 ·exact⟨g,cap,rfl⟩
theorem Gw{w:World}{B:Nat}{e:TypeId}{size g n c:Nat}{a:List Value}(h:w.ownsRow B e size (.slice (some ⟨g,0,none⟩) n c) n a){j:Nat}{u:Value}(hj:a[j]?=some u):w.cell? ⟨g,j,none⟩=some u:=by
 obtain⟨cur,b,f,k,l,d,_,i⟩:=GZ h;rw[Fx b];rw[<-d,List.getElem?_take]at hj;split at hj
 ·simpa using hj
 ·cases hj
theorem LM{w:World}{B:Nat}{e:TypeId}{size g n c:Nat}{b:List Value}(h:w.ownsRow B e size (.slice (some ⟨g,0,none⟩) n c) n b)(j:Nat):w.frozen? ⟨g,j,none⟩=false:=by
 obtain⟨cur,a,_⟩:=GZ h;exact HD a
theorem JL{w:World}{B:Nat}{e:TypeId}{size g n c:Nat}{a:List Value}(h:w.ownsRow B e size (.slice (some ⟨g,0,none⟩) n c) n a){j:Nat}(hj:j<a.length)(u:Value):
 (w.setCell ⟨g,j,none⟩ u).ownsRow B e size (.slice (some ⟨g,0,none⟩) n c) n (a.set j u):=by
 obtain⟨cur,f,d,k,l,m,b,i⟩:=GZ h;refine⟨by simpa using i,Or.inr ⟨g,c,cur.setIfInBounds j u,rfl,b,FX f,d,k,by simpa using l,?_⟩⟩;rw[Array.toList_setIfInBounds,List.take_set,m]
theorem Jo:∀(l:List aV) (a:Nat) (X:aV),l[a]?=some X->(b' l)[a*7+4]?=some (.int .u64 X.v)
 |[],a,X,h=>by simp at h
 |Y::l,0,X,h=>by
  have:Y=X:=by simpa using h
  subst this;rfl
 |Y::l,a+1,X,h=>by
  rw[j',List.getElem?_append_right (by simp[aC];omega)];have:=Jo l a X (by simpa using h);rw[show(a+1)*7+4-(aC Y).toList.length=a*7+4 from by simp[aC];omega];exact this
theorem Ip:∀(l:List aV) (a:Nat) (v:Int),a<l.length->(b' l).set (a*7+4) (.int .u64 v)=b' (Fa l a v)
 |[],a,v,h=>by simp at h
 |Y::l,0,v,h=>rfl
 |Y::l,a+1,v,h=>by
  have ih:=Ip l a v (by simpa using h);unfold Fa at ih⊢;rw[List.modify_succ_cons,j',j',<-ih,List.set_append_right _ _ (by simp[aC];omega)]
  congr 2
  simp[aC];omega
theorem IY(l:List aV)(a:Nat)(v:Int):(Fa l a v).length=l.length:=by simp[Fa]
theorem Hv:∀(l:List (Int×Int×ByteArray)) (j:Nat) (x:Int×Int×ByteArray),l[j]?=some x->(FT l)[j*3]?=some (.int .i64 x.1)/\(FT l)[j*3+1]?=some (.int .i64 x.2.1)/\(FT l)[j*3+2]?=some (.string x.2.2)
 |[],j,x,h=>by simp at h
 |y::l,0,x,h=>by
  have:y=x:=by simpa using h
  subst this;exact⟨rfl,rfl,rfl⟩
 |y::l,j+1,x,h=>by
  obtain⟨a,b,c⟩:=Hv l j x (by simpa using h);have e:FT (y::l)=[.int .i64 y.1,.int .i64 y.2.1,.string y.2.2]++FT l:=rfl;rw[e];refine⟨?_,?_,?_⟩
  ·rw[List.getElem?_append_right (by simp;omega),show(j+1)*3-_=j*3 from by simp;omega];exact a
  ·rw[List.getElem?_append_right (by simp;omega),show(j+1)*3+1-_=j*3+1 from by simp;omega];exact b
  ·rw[List.getElem?_append_right (by simp;omega),show(j+1)*3+2-_=j*3+2 from by simp;omega];exact c
theorem Gu:∀(l:List (ByteArray×Int)) (j:Nat) (x:ByteArray×Int),l[j]?=some x->(FZ l)[j*2]?=some (.string x.1)/\(FZ l)[j*2+1]?=some (.int .i64 x.2)
 |[],j,x,h=>by simp at h
 |y::l,0,x,h=>by
  have:y=x:=by simpa using h
  subst this;exact⟨rfl,rfl⟩
 |y::l,j+1,x,h=>by
  obtain⟨a,b⟩:=Gu l j x (by simpa using h);have e:FZ (y::l)=[.string y.1,.int .i64 y.2]++FZ l:=rfl;rw[e];refine⟨?_,?_⟩
  ·rw[List.getElem?_append_right (by simp;omega),show(j+1)*2-_=j*2 from by simp;omega];exact a
  ·rw[List.getElem?_append_right (by simp;omega),show(j+1)*2+1-_=j*2+1 from by simp;omega];exact b
theorem IZ:∀(l:List (ByteArray×Int)) (nm:ByteArray) (i j:Nat),F5 l nm i=some j->i<=j/\j<i+l.length
 |[],nm,i,j,h=>by simp[F5]at h
 |b::l,nm,i,j,h=>by
  unfold F5 at h;split at h
  ·injection h with h;subst h;simp
  ·have:=IZ l nm (i+1) j h
   simp only[List.length_cons];omega
theorem I0{B g i:Nat}{w w':World}(h:Below B w w')(a:g<B):w'.cell? ⟨g,i,none⟩=w.cell? ⟨g,i,none⟩:=by
 unfold World.cell?;simp only[h.block g a]
def HQ(nm:ByteArray):List (ByteArray×Int)->Int×Bool
 |[]=>(0,false)
 |x::l=>if x.1=nm then(x.2,true)else HQ nm l
def I1(r:Int×Bool)(w:World)(e:Ending)(w':World):Prop:=e=.returned (.tuple #[.int .i64 r.1,.bool r.2])/\Below w.heap.size w w'
theorem I1.mk{r:Int×Bool}{w w':World}{x:Int}{b:Bool}(h:r=(x,b))(hb:Below w.heap.size w w'):I1 r w (.returned (.tuple #[.int .i64 x,.bool b])) w':=⟨by rw[h],hb⟩
theorem N9(a:List (ByteArray×Int))(nm:ByteArray)(g c:Nat)(E:a.length<=1000000)(C:a.length<=c)(w:World)(v:g<w.heap.size)
 (t:∀i u,(FZ a)[i]?=some u->w.cell? ⟨g,i,none⟩=some u):
 Calls prog 97 #[.slice (some ⟨g,0,none⟩) a.length c,.string nm] w (I1 (HQ nm a) w):=by
 obtain⟨p,h⟩:=mn (HQ nm a);have A:Hid (HQ nm (a.drop 0)=p):=h.symm;have m:=Z t;obtain⟨N,e⟩:=mn a.length;rw[<-h,<-e];rw[<-e]at E C;have o:=Z e;clear t e h;go_enter func97,ntmps97
 go_wp2
 go_loopw [10] (fun s F=>∃k:Nat,k<=N/\s=.int .i64 k/\Below w.heap.size w F/\Hid (HQ nm (a.drop k)=p)) (fun s _=>N-(intOf s).toNat)
 case atStart=>exact⟨0,by omega,rfl,Below.refl _ _,A⟩
 case round=>
  obtain⟨k,G,rfl,b,f⟩:=hrel;by_cases D:k<N
  ·have x:k<a.length:=by rw[<-o.out];exact D
   have j:a[k]?=some a[k]:=List.getElem?_eq_getElem x;have l:a.drop k=a[k]::a.drop (k+1):=List.drop_eq_getElem_cons x;obtain⟨X,q⟩:=mn (a[k]);rw[<-q]at j l;obtain⟨f0,f1⟩:=Gu a k X j;have a0:=(I0 b v).trans (m.out _ _ f0);have a1:=(I0 b v).trans (m.out _ _ f1);have d:=Z b;have r:=b.size;have H:(k:Int)<(N:Int):=(by omega);have n:Hid (HQ nm (a.drop k)=if X.1=nm then(X.2,true)else HQ nm (a.drop (k+1))):=(by show _=_;rw[l];rfl);clear q j f0 f1 b l;cases y:(X.1.toList==nm.toList)
   ·have B:=Z (Jm y)
    go_wp2
    go_roundw
    case rel=>exact⟨k+1,by omega,by go_num,d.out.alloc r _,by show _=_;rw[<-f.out,n.out,if_neg B.out]⟩
    case measure=>simp[intOf];omega
   ·have z:=Z (toList_eq y)
    go_wp2
    go_ret2;exact I1.mk (by rw[<-f.out,n.out,if_pos z.out]) (d.out.alloc r _)
  ·obtain rfl:k=N:=by omega
   have d:=Z b;clear b;go_wp2
   go_ret2;exact I1.mk (by rw[<-f.out,o.out,List.drop_length];rfl) d.out
end Go.Proofs.YtlihkblppjgebaaGreatDoor
