import Derived.Laws.StructEq
import Derived.BigQuiet
import Derived.Deep.QuietTactic
import Derived.StillTailTactics
import Derived.Deep.AppendLies
import Derived.Deep.RegionLaw
import Derived.Deep.DeepCutAuto
import Derived.Test.YtlihkblppjgebaaGreatDoorZAf
import Derived.Test.YtlihkblppjgebaaGreatDoorZAh
set_option linter.all false
set_option maxRecDepth 100000
set_option maxHeartbeats 0
namespace Go.Proofs.YtlihkblppjgebaaGreatDoor
open Go.RowKit Go.Proofs.Tryz
variable{w w':World}{B bx g p:Nat}{v:Value}
theorem IZ(t:ByteArray):∀(f i a:Nat),i+f<=t.size+1->(∀x∈hl t f i a,1<=x.size/\x.size<=t.size)/\(hl t f i a).length<=f
 |0,_,_,_=>by simp[hl]
 |f+1,i,a,h=>by
  obtain⟨d,e⟩:=IZ t f (i+1) a (by omega);obtain⟨c,j⟩:=IZ t f (i+1) (i+1) (by omega);unfold hl;split
  ·exact⟨d,by omega⟩
  ·split
   ·refine⟨fun x b=> ?_,by simp;omega⟩
    rcases List.mem_cons.1 b with rfl|b
    ·simp;omega
    ·exact c x b
   ·exact⟨c,by omega⟩
theorem LF(s:ByteArray):(I3 s).size<=s.size:=by
 unfold I3;split
 ·simp;omega
 ·exact Nat.le_refl _
theorem KT(s:ByteArray):(∀x∈H3 s,1<=x.size/\x.size<=s.size)/\(H3 s).length<=s.size+1:=by
 obtain⟨a,d⟩:=IZ (I3 s) ((I3 s).size+1) 0 0 (by omega);have c:=LF s;exact⟨fun x b=>⟨(a x b).1,Nat.le_trans (a x b).2 c⟩,by unfold H3;omega⟩
def Im(w:World)(g:Nat)(a:List ByteArray):Prop:=
 ∃cur:Array Value,w.heap[g]?=some (.cells cur 9 (0,0))/\∀(j:Nat) (x:ByteArray),a[j]?=some x->cur[j]?=some (.string x)
theorem Im.keep{a:List ByteArray}(h:Im w g a)(k:H9 w w'):Im w' g a:=by
 obtain⟨cur,b,c⟩:=h;exact⟨cur,k g cur 9 _ (Or.inl rfl) b,c⟩
theorem Im.cell{a:List ByteArray}(h:Im w g a){j:Nat}{x:ByteArray}(d:a[j]?=some x):w.cell? (g,j)=some (.string x):=by
 obtain⟨cur,b,c⟩:=h;rw[sb b];exact c j x d
theorem Im.lt{b:List ByteArray}(h:Im w g b):g<w.heap.size:=by
 obtain⟨cur,a,_⟩:=h;exact(Array.getElem?_eq_some_iff.1 a).1
theorem Im.Ju{a:List ByteArray}(h:w.ownsRow B 9 1 v a.length (a.map Value.string))(l:a≠[]):
 ∃g cap,v=.slice (some ⟨g,0,none⟩) a.length cap/\B<=g/\a.length<=cap/\cap<=maxLen/\Im w g a:=by
 rcases h.2 with⟨_,c⟩|⟨g,cap,cur,rfl,d,f,e,k,n,m⟩
 ·exact absurd (List.eq_nil_of_length_eq_zero c) l
 ·refine⟨g,cap,rfl,d,e,k,cur,f,fun j x i=> ?_⟩
  have b:(a.map Value.string)[j]?=some (.string x):=by simp[i]
  rw[<-m]at b;rw[List.getElem?_take]at b;split at b
  ·simpa using b
  ·cases b
theorem Ir(h:Below w.heap.size w w'):H9 w w':=by
 intro k c t f _ a;rw[h.block k (Array.getElem?_eq_some_iff.1 a).1];exact a
theorem H'{e:TypeId}{size:Nat}{n:Nat}{xs:List Value}(h:w.ownsRow B e size v n xs)(hb:Below w.heap.size w w'):w'.ownsRow B e size v n xs:=
 h.kept (row:=none) ⟨hb.os,hb.tape,hb.output,hb.size,fun k a _=>hb.block k a⟩ (by cases v.ownBlock<;>simp)
theorem HQ.below{st:w3}(h:HQ w B p bx st)(hb:Below w.heap.size w w'):HQ w' B p bx st:=by
 obtain⟨vl,vb,vn,vw,bm,b,c,f,j,d,i,k,e,a⟩:=h;exact⟨vl,vb,vn,vw,bm,by rw[hb.block p (Array.getElem?_eq_some_iff.1 b).1];exact b,c,H' f hb,j,H' d hb,H' i hb,H' k hb,e,
  by rw[hb.block bm (Array.getElem?_eq_some_iff.1 a).1];exact a⟩
theorem HQ.fresh{st:w3}(h:HQ w B p bx st)(k:Nat)(d:w.heap.size<=k):HQ w B p k st:=by
 obtain⟨vl,vb,vn,vw,bm,c,b,a,f,rest⟩:=h;refine⟨vl,vb,vn,vw,bm,c,b,a,fun e=> ?_,rest⟩;have:=(a.lt k e).2;omega
def HY:List (ByteArray×Int)->ByteArray->Nat->Option Nat
 |[],_,_=>none
 |b::l,nm,i=>if b.1=nm then some i else HY l nm (i+1)
def L2(x:(ByteArray×Int)×Nat):MapEntry:={key:=.string x.1.1,val:=.int .i64 x.2,born:=x.2}
theorem JX(a b:ByteArray):(a==b)=true↔a=b:=by
 rw[beq_toListBytes,beq_iff_eq,ByteArray.toList_eq,ByteArray.toList_eq];exact⟨fun h=>ByteArray.ext (Array.ext' h),fun h=>by rw[h]⟩
theorem I5(nm:ByteArray):∀(l:List (ByteArray×Int)) (i:Nat),Instr.findNow .string (.string nm) ((l.zipIdx i).map L2) i=some ((HY l nm i).map fun(j:Nat)=>(j,Value.int .i64 (j:Int)))
 |[],_=>rfl
 |b::l,i=>by
  have ih:=I5 nm l (i+1);simp only[List.zipIdx_cons,List.map_cons,Instr.findNow,L2,Instr.sameNow,HY];by_cases h:b.1=nm
  ·have a:(nm==b.1)=true:=(JX nm b.1).2 h.symm
   rw[a,if_pos h];rfl
  ·have a:(nm==b.1)=false:=by
    rw[Bool.eq_false_iff];intro e;exact h ((JX nm b.1).1 e).symm
   rw[a,if_neg h];exact ih
def JY:Option Nat->Value
 |some j=> .tuple #[.int .i64 j,.bool true]
 |none=> .tuple #[.int .i64 0,.bool false]
theorem I0(w:World)(bm:Nat)(l:List (ByteArray×Int))(n:Nat)(nm:ByteArray)(d:w.heap[bm]?=some (.map (HM l) n)):
 (Instr.lookup 293 (.map (some bm)) (.string nm) true).run prog w=.ok (JY (HY l nm 0)) w:=by
 have a:Instr.findNow .string (.string nm) (HM l).toList 0=some ((HY l nm 0).map fun(j:Nat)=>(j,Value.int .i64 (j:Int))):=I5 nm l 0;have c:∀b w,(Instr.checkKey b 10000 9 (.string nm)).run prog w=.ok () w:=fun b w=>by
  unfold Instr.checkKey;simp[run_underlying underlying9]
 have e:(zeroValue 3).run prog w=.ok (.int .i64 0) w:=by kernel_rfl
 unfold Instr.lookup Instr.findKey;simp only[go_sem,run_underlying underlying293,run_underlying underlying9,Sem.run_bind,Result.andThen_ok,getObj,Sem.run,d,c];simp only[Sem.run_pure,Result.andThen_ok,a];cases HY l nm 0<;>simp[JY,e,go_sem]
def HX(r:Except Bool w3)(B p:Nat)(line:Int)(w:World)(e:Ending)(w':World):Prop:=
 match r with
 |.ok st=>e=.returned .nilIface/\HQ w' B p p st/\Below B w w'/\H9 w w'
 |.error t=>∃v,e=.returned v/\JU w' B line t v/\Below B w w'
theorem HX.text{r:Except Bool w3}{B p:Nat}{line:Int}{w W:World}{n:Nat}(h:r=.error true)(b:n=W.heap.size)(hb:Below B w W)(a:B<=W.heap.size):
 HX r B p line w (.returned (.iface 247 (.pointer (some (n,0))))) (W.alloc (.cells #[.string ⟨#[97,115,109]⟩,line,.iface 152 (.int .i64 6)] 249)):=by
 subst h;subst b;exact⟨_,rfl,⟨_,_,rfl,a,hU,fun _=>rfl⟩,hb.alloc a _⟩
def Ip(w:World)(bm:Nat)(a:Array MapEntry)(n:Nat):World:={w with heap:=w.heap.setIfInBounds bm (.map a n)}
theorem Ky(l:List (ByteArray×Int))(x:ByteArray×Int):(HM l).push ⟨.string x.1,.int .i64 l.length,l.length⟩=HM (l++[x]):=by
 unfold HM;simp[List.zipIdx_append]
theorem Ld(w:World)(bm:Nat)(l:List (ByteArray×Int))(x:ByteArray×Int)(c:w.heap[bm]?=some (.map (HM l) l.length))(a:HY l x.1 0=none):
 (Instr.mapUpdate 293 (.map (some bm)) (.string x.1) (.int .i64 l.length)).run prog w=.ok () (Ip w bm (HM (l++[x])) (l.length+1)):=by
 have a:Instr.findNow .string (.string x.1) (HM l).toList 0=some none:=by
  have:=I5 x.1 l 0;rw[a]at this;exact this
 have d:∀b w,(Instr.checkKey b 10000 9 (.string x.1)).run prog w=.ok () w:=fun b w=>by
  unfold Instr.checkKey;simp[run_underlying underlying9]
 unfold Instr.mapUpdate Instr.findKey;simp only[go_sem,run_underlying underlying293,run_underlying underlying9,Sem.run_bind,Result.andThen_ok,getObj,Sem.run,c,d];simp only[Sem.run_pure,Result.andThen_ok,a];simp[setObj,Sem.run,c,Ip,Ky]
theorem LG(s:ByteArray)(k:s.size<=65536)(line:Int)(B p:Nat)(st:w3)(w:World)(i:HQ w B p p st)(h:B<=w.heap.size)(l:H3 s=[]):
 Calls prog 144 #[(p,0),.string s,line] w (HX (.ok st) B p line w):=by
 have f:=Z i;have g:=Z l;go_in
 go_wp2_with fail
 refine(Io s k w).mono ?_;rintro e w1 ⟨v,rfl,d,b⟩;rw[g]at d;obtain⟨a,c,rfl⟩:=H2 d;have j:=Z (f.below b);simp only[List.length_nil];go_wp2
 go_ret;exact⟨rfl,j.out,b.mono h,Ir b⟩
theorem Le(s:ByteArray)(u:s.size<=65536)(line:Int)(B p:Nat)(st:w3)(w:World)(t:HQ w B p p st)(m:B<=w.heap.size)(w0:ByteArray)(x:H3 s=[w0])
 (A:1<=w0.size) (C:w0.size<=65536) (n:sv w0 (w0.size-1)=58) (j:Nat) (q:HY st.labels (w0.extract 0 (w0.size-1)) 0=some j):
 Calls prog 144 #[(p,0),.string s,line] w (HX (.error true) B p line w):=by
 have k:=Z t;have l:=Z x;have p1:w0.size-1<w0.size:=by omega
 have z:((w0[w0.size-1].toNat:Int)==58)=true:=by rw[ck,beq_iff_eq];exact n
 have h:=Z q;go_in
 go_wp2_with fail
 refine(Io s u w).mono ?_;rintro e w1 ⟨v,rfl,b,a⟩;rw[l]at b;obtain⟨g,cap,rfl,D,o,I,f⟩:=Im.Ju b (by simp);have d:=k.below a;have y:=Z d;obtain⟨vl,vb,vn,vw,bm,c,E,L,P,F,Q,S,G,r⟩:=d;have T:w1.cell? (p,3)=some (.map (some bm)):=sb c;have t0:w1.cell? (g,0)=some (.string w0):=f.cell (j:=0) rfl;have R:p<w1.heap.size:=(Array.getElem?_eq_some_iff.1 c).1;have J:g<w1.heap.size:=f.lt;have i:=Z r;have K:∀nq,(Instr.lookup 293 (.map (some bm)) (.string (w0.extract 0 (w0.size-1))) true).run prog (w1.drewN nq)=.ok (.tuple #[.int .i64 j,.bool true]) (w1.drewN nq):=fun nq=>by
  rw[I0 (w1.drewN nq) bm st.labels st.labels.length _ i,h];rfl
 have H:1<=cap:=by simpa using o
 simp only[List.length_cons,List.length_nil];go_wp2
 have M:(0:Int)<=(w0.size:Int)-1:=by omega
 have N:((w0.size:Int)-1).toNat=w0.size-1:=by omega
 have O:(w0.size:Int)-1<=(w0.size:Int):=by omega
 go_quiet (fail)
 go_wp2_with (go_at_call 142;refine(sz _ _ _ _).mono ?_;rintro e w' ⟨rfl,rfl⟩)
 go_ret;exact HX.text rfl rfl (below_drewN (a.mono m) _) (by have:=a.size;simp;omega)
theorem Kz(s:ByteArray)(y:s.size<=65536)(line:Int)(B p:Nat)(st:w3)(w:World)(x:HQ w B p p st)(n:B<=w.heap.size)(w0:ByteArray)(z:H3 s=[w0])
 (D:1<=w0.size) (E:w0.size<=65536) (o:sv w0 (w0.size-1)=58) (r:HY st.labels (w0.extract 0 (w0.size-1)) 0=none) (u:Iy (w0.extract 0 (w0.size-1))=false):
 Calls prog 144 #[(p,0),.string s,line] w (HX (.error true) B p line w):=by
 have l:=Z x;have m:=Z z;have p1:w0.size-1<w0.size:=by omega
 have C:((w0[w0.size-1].toNat:Int)==58)=true:=by rw[ck,beq_iff_eq];exact o
 have h:=Z r;have k:=Z (IW (w0.extract 0 (w0.size-1)) (by unfold maxLen;simp;omega) false u);go_in
 go_wp2_with fail
 refine(Io s y w).mono ?_;rintro e w1 ⟨v,rfl,b,a⟩;rw[m]at b;obtain⟨g,cap,rfl,F,q,K,f⟩:=Im.Ju b (by simp);have d:=l.below a;have A:=Z d;obtain⟨vl,vb,vn,vw,bm,c,G,N,R,H,S,U,I,t⟩:=d;have V:w1.cell? (p,3)=some (.map (some bm)):=sb c;have t0:w1.cell? (g,0)=some (.string w0):=f.cell (j:=0) rfl;have T:p<w1.heap.size:=(Array.getElem?_eq_some_iff.1 c).1;have L:g<w1.heap.size:=f.lt;have i:=Z t;have M:∀nq,(Instr.lookup 293 (.map (some bm)) (.string (w0.extract 0 (w0.size-1))) true).run prog (w1.drewN nq)=.ok (.tuple #[.int .i64 0,.bool false]) (w1.drewN nq):=fun nq=>by
  rw[I0 (w1.drewN nq) bm st.labels st.labels.length _ i,h];rfl
 have J:1<=cap:=by simpa using q
 simp only[List.length_cons,List.length_nil];go_wp2
 have O:(0:Int)<=(w0.size:Int)-1:=by omega
 have P:((w0.size:Int)-1).toNat=w0.size-1:=by omega
 have Q:(w0.size:Int)-1<=(w0.size:Int):=by omega
 go_quiet (fail)
 go_wp2_with (first|(go_at_call 186;refine(k _).mono ?_;rintro e w' ⟨rfl,rfl⟩)|(go_at_call 142;refine(sz _ _ _ _).mono ?_;rintro e w' ⟨rfl,rfl⟩))
 go_ret;exact HX.text rfl rfl (below_drewN (a.mono n) _) (by have:=a.size;simp;omega)
section
variable{w w1:World}{B bm bx k n p:Nat}{v' vb vl vn vw:Value}
def Jv(w:World)(B p bx:Nat)(code:List be)(a labels:List (ByteArray×Int))(lines:List Int)(b:List (Int×Int×ByteArray)):Prop:=
 ∃vl vb vn vw bm,w.heap[p]?=some (.cells #[vl,vb,vn,.map (some bm),vw] 296 (0,0))/\B<=p/\
  w.ownsRow B 184 7 vl code.length (b4 code)/\vl.ownBlock≠some bx/\
  w.ownsRow B 301 2 vb labels.length (HV labels)/\
  w.ownsRow B 3 1 vn lines.length (Ig lines)/\
  w.ownsRow B 300 3 vw b.length (HP b)/\
  B<=bm/\w.heap[bm]?=some (.map (HM a) a.length)
theorem HQ.parts{st:w3}(h:HQ w B p bx st):Jv w B p bx st.code st.labels st.labels st.lines st.bu:=h
theorem Jv.whole{st:w3}(h:Jv w B p bx st.code st.labels st.labels st.lines st.bu):HQ w B p bx st:=h
theorem IA{a:Array MapEntry}(h:k≠bm):(Ip w bm a n).heap[k]?=w.heap[k]?:=by
 unfold Ip;simp only[Array.getElem?_setIfInBounds];rw[if_neg (Ne.symm h)]
theorem KA(w:World)(bm:Nat)(a:Array MapEntry)(n:Nat):w.grownBy (Ip w bm a n) (some bm):=
 ⟨rfl,rfl,rfl,by simp[Ip],fun k _ b=>IA (fun e=>b (by rw[e]))⟩
theorem I1{e:TypeId}{size:Nat}{v:Value}{xs:List Value}(h:w.ownsRow B e size v n xs){c:Array MapEntry}{t:Nat}(a:w.heap[k]?=some (.map c t)):v.ownBlock=none∨v.ownBlock≠some k:=Or.inr (Jb h a)
theorem Jv.put{code:List be}{a l:List (ByteArray×Int)}{lines:List Int}{i:List (Int×Int×ByteArray)}(x:ByteArray×Int)
 (g:w.heap[p]?=some (.cells #[vl,vb,vn,.map (some bm),vw] 296 (0,0))) (q:B<=p) (j:w.ownsRow B 184 7 vl code.length (b4 code)) (u:vl.ownBlock≠some bx)
 (hb:w.ownsRow B 301 2 vb l.length (HV l)) (m:w.ownsRow B 3 1 vn lines.length (Ig lines)) (o:w.ownsRow B 300 3 vw i.length (HP i))
 (r:B<=bm) (b:w.heap[bm]?=some (.map (HM a) a.length)):
 Jv (Ip w bm (HM (a++[x])) (a.length+1)) B p bx code (a++[x]) l lines i/\Below B w (Ip w bm (HM (a++[x])) (a.length+1))/\H9 w (Ip w bm (HM (a++[x])) (a.length+1)):=by
 have h:=KA w bm (HM (a++[x])) (a.length+1);have s:bm<w.heap.size:=(Array.getElem?_eq_some_iff.1 b).1;have v:p≠bm:=by
  intro e;subst e;rw[b]at g;injection g with g;cases g
 refine⟨⟨vl,vb,vn,vw,bm,?_,q,j.kept h (I1 j b),u,hb.kept h (I1 hb b),m.kept h (I1 m b),o.kept h (I1 o b),r,?_⟩,?_,?_⟩
 ·rw[IA v];exact g
 ·unfold Ip;simp[Array.getElem?_setIfInBounds,s]
 ·exact⟨rfl,rfl,rfl,by simp[Ip],fun k d=>IA (by omega)⟩
 ·intro k c t f _ d
  rw[IA (fun e=>by subst e;rw[b]at d;injection d with d;cases d)];exact d
theorem M0{code:List be}{f l:List (ByteArray×Int)}{lines:List Int}{g:List (Int×Int×ByteArray)}{y:ByteArray×Int}
 (a:w.heap[p]?=some (.cells #[vl,vb,vn,.map (some bm),vw] 296 (0,0))) (h:B<=p) (i:w.ownsRow B 184 7 vl code.length (b4 code)) (t:vl.ownBlock≠some bx)
 (hb:w.ownsRow B 301 2 vb l.length (HV l)) (m:w.ownsRow B 3 1 vn lines.length (Ig lines)) (q:w.ownsRow B 300 3 vw g.length (HP g))
 (r:B<=bm) (d:w.heap[bm]?=some (.map (HM f) f.length))
 (v:w1.ownsRow B 301 2 v' (l.length+1) (HV l++[.string y.1,.int .i64 y.2])) (b:w.grownBy w1 vb.ownBlock):
 Jv (w1.setCell (p,1) v') B p bx code f (l++[y]) lines g/\Below B w (w1.setCell (p,1) v')/\H9 w (w1.setCell (p,1) v'):=by
 have o:p<w.heap.size:=(Array.getElem?_eq_some_iff.1 a).1;have z:vb.ownBlock≠some p:=tw hb a (by decide);have c:w1.heap[p]?=some (.cells #[vl,vb,vn,.map (some bm),vw] 296 (0,0)):=by rw[b.block p o (Ne.symm z)];exact a
 have x:bm≠p:=by
  intro e;subst e;rw[d]at a;injection a with a;cases a
 refine⟨⟨vl,v',vn,vw,bm,HS c,h,H6 i b (H5 i hb (by decide)) c (by decide),t,?_,H6 m b (H5 m hb (by decide)) c (by decide),H6 q b (H5 q hb (by decide)) c (by decide),r,?_⟩,?_,?_⟩
 ·have:=JN (j:=1) (u:=v') v c (by decide)
  simpa[HV]using this
 ·rw[HL (by simpa using x),b.block bm (Array.getElem?_eq_some_iff.1 d).1 (Ne.symm (Jb hb d))];exact d
 ·exact II b (fun k s=>(hb.lt k s).1) h o
 ·exact IX a b (Je hb (by decide))
theorem Mv{code:List be}{g l:List (ByteArray×Int)}{lines:List Int}{h:List (Int×Int×ByteArray)}{y:Int}
 (a:w.heap[p]?=some (.cells #[vl,vb,vn,.map (some bm),vw] 296 (0,0))) (i:B<=p) (m:w.ownsRow B 184 7 vl code.length (b4 code)) (t:vl.ownBlock≠some bx)
 (hb:w.ownsRow B 301 2 vb l.length (HV l)) (c:w.ownsRow B 3 1 vn lines.length (Ig lines)) (q:w.ownsRow B 300 3 vw h.length (HP h))
 (r:B<=bm) (f:w.heap[bm]?=some (.map (HM g) g.length))
 (v:w1.ownsRow B 3 1 v' (lines.length+1) (Ig lines++[.int .i64 y])) (b:w.grownBy w1 vn.ownBlock):
 Jv (w1.setCell (p,2) v') B p bx code g l (lines++[y]) h/\Below B w (w1.setCell (p,2) v')/\H9 w (w1.setCell (p,2) v'):=by
 have o:p<w.heap.size:=(Array.getElem?_eq_some_iff.1 a).1;have z:vn.ownBlock≠some p:=tw c a (by decide);have d:w1.heap[p]?=some (.cells #[vl,vb,vn,.map (some bm),vw] 296 (0,0)):=by rw[b.block p o (Ne.symm z)];exact a
 have x:bm≠p:=by
  intro e;subst e;rw[f]at a;injection a with a;cases a
 refine⟨⟨vl,vb,v',vw,bm,HS d,i,H6 m b (H5 m c (by decide)) d (by decide),t,H6 hb b (H5 hb c (by decide)) d (by decide),?_,H6 q b (H5 q c (by decide)) d (by decide),r,?_⟩,?_,?_⟩
 ·have:=JN (j:=2) (u:=v') v d (by decide)
  simpa[Ig]using this
 ·rw[HL (by simpa using x),b.block bm (Array.getElem?_eq_some_iff.1 f).1 (Ne.symm (Jb c f))];exact f
 ·exact II b (fun k s=>(c.lt k s).1) i o
 ·exact IX a b (Je c (by decide))
theorem Lw{code:List be}{g l:List (ByteArray×Int)}{lines:List Int}{h:List (Int×Int×ByteArray)}{y:be}
 (a:w.heap[p]?=some (.cells #[vl,vb,vn,.map (some bm),vw] 296 (0,0))) (i:B<=p) (c:w.ownsRow B 184 7 vl code.length (b4 code)) (A:vl.ownBlock≠some bx)
 (hb:w.ownsRow B 301 2 vb l.length (HV l)) (m:w.ownsRow B 3 1 vn lines.length (Ig lines)) (q:w.ownsRow B 300 3 vw h.length (HP h))
 (r:B<=bm) (f:w.heap[bm]?=some (.map (HM g) g.length))
 (v:w1.ownsRow B 184 7 v' (code.length+1) (b4 code++(aD y).toList)) (b:w.grownBy w1 vl.ownBlock) (t:v'.ownBlock≠some bx):
 Jv (w1.setCell (p,0) v') B p bx (code++[y]) g l lines h/\Below B w (w1.setCell (p,0) v')/\H9 w (w1.setCell (p,0) v'):=by
 have o:p<w.heap.size:=(Array.getElem?_eq_some_iff.1 a).1;have z:vl.ownBlock≠some p:=tw c a (by decide);have d:w1.heap[p]?=some (.cells #[vl,vb,vn,.map (some bm),vw] 296 (0,0)):=by rw[b.block p o (Ne.symm z)];exact a
 have x:bm≠p:=by
  intro e;subst e;rw[f]at a;injection a with a;cases a
 refine⟨⟨v',vb,vn,vw,bm,HS d,i,?_,t,H6 hb b (H5 hb c (by decide)) d (by decide),H6 m b (H5 m c (by decide)) d (by decide),H6 q b (H5 q c (by decide)) d (by decide),r,?_⟩,?_,?_⟩
 ·have:=JN (j:=0) (u:=v') v d (by decide)
  simpa[b4]using this
 ·rw[HL (by simpa using x),b.block bm (Array.getElem?_eq_some_iff.1 f).1 (Ne.symm (Jb c f))];exact f
 ·exact II b (fun k s=>(c.lt k s).1) i o
 ·exact IX a b (Je c (by decide))
end
theorem Kc{B:Nat}{w w':World}(h:Below B w.drew w'):Below B w w':=⟨h.os,h.tape,h.output,h.size,h.block⟩
theorem M1:(prog.info? 301).map (fun i=>(i.zero,i.size,i.bytes))=some (some (.agg #[.string ByteArray.empty,.int .i64 0]),2,24):=by kernel_rfl
theorem Ng:(prog.info? 3).map (fun i=>(i.zero,i.size,i.bytes))=some (some (.int .i64 0),1,8):=by kernel_rfl
theorem Lf(s:ByteArray)(cF:s.size<=65536)(line:Int)(B p:Nat)(st:w3)(w:World)(cA:HQ w B p p st)(c2:B<=w.heap.size)(w0:ByteArray)(cL:H3 s=[w0])
 (eS:1<=w0.size) (eW:w0.size<=65536) (c8:sv w0 (w0.size-1)=58) (ch:HY st.labels (w0.extract 0 (w0.size-1)) 0=none) (cq:Iy (w0.extract 0 (w0.size-1))=true) (fK:st.labels.length<=1048576) (fL:st.lines.length<=1048576):
 Calls prog 144 #[(p,0),.string s,line] w (HX (.ok {st with labels:=st.labels++[(w0.extract 0 (w0.size-1),(st.code.length:Int))],lines:=st.lines++[line]}) B p line w):=by
 have ap:=Z cA;have bb:=Z cL;have p1:w0.size-1<w0.size:=by omega
 have eA:((w0[w0.size-1].toNat:Int)==58)=true:=by rw[ck,beq_iff_eq];exact c8
 have K:=Z ch;have a5:=Z (IW (w0.extract 0 (w0.size-1)) (by unfold maxLen;simp;omega) true cq);go_in
 go_wp2_with fail
 refine(Io s cF w).mono ?_;rintro e w1 ⟨v,rfl,M,L⟩;rw[bb]at M;obtain⟨g,cap,rfl,fd,ca,fz,H⟩:=Im.Ju M (by simp);have P:=ap.below L;have av:=Z P;obtain⟨vl,vb,vn,vw,bm,b,l,h,o,c,q,x,m,f⟩:=P;have et:w1.cell? (p,3)=some (.map (some bm)):=sb b;have t0:w1.cell? (g,0)=some (.string w0):=H.cell (j:=0) rfl;have G:p<w1.heap.size:=(Array.getElem?_eq_some_iff.1 b).1;have cb:g<w1.heap.size:=H.lt;have a2:=Z f;have fM:∀nq,(Instr.lookup 293 (.map (some bm)) (.string (w0.extract 0 (w0.size-1))) true).run prog (w1.drewN nq)=.ok (.tuple #[.int .i64 0,.bool false]) (w1.drewN nq):=fun nq=>by
  rw[I0 (w1.drewN nq) bm st.labels st.labels.length _ a2,K];rfl
 have aP:=Z H;have fn:1<=cap:=by simpa using ca
 simp only[List.length_cons,List.length_nil];go_wp2
 have g0:(0:Int)<=(w0.size:Int)-1:=by omega
 have g1:((w0.size:Int)-1).toNat=w0.size-1:=by omega
 have g2:(w0.size:Int)-1<=(w0.size:Int):=by omega
 go_quiet (fail)
 obtain⟨w2,r⟩:=nm (w1.drewN nq);have J:Hid (Below w.heap.size w w2):=by rw[<-r];exact below_drewN L _
 have cC:HQ w2 B p p st:=by rw[<-r];exact av
 have k:Im w2 g [w0]:=by rw[<-r];exact aP
 rw[r];obtain⟨vl,vb,vn,vw,bm,b,l,h,o,c,q,x,m,f⟩:=cC.parts;obtain⟨bx,bX,rfl⟩:=H2 c;have U:w2.cell? (p,1)=some (.slice bx st.labels.length bX):=sb b;have et:w2.cell? (p,3)=some (.map (some bm)):=sb b;have t0:w2.cell? (g,0)=some (.string w0):=k.cell (j:=0) rfl;have A:=Z (Jv.put (w:=w2.drew) (w0.extract 0 (w0.size-1),(st.code.length:Int)) b l h o c q x m f);have fT:(Instr.mapUpdate 293 (.map (some bm)) (.string (w0.extract 0 (w0.size-1))) (.int .i64 st.labels.length)).run prog w2.drew=.ok () (Ip w2.drew bm (HM (st.labels++[(w0.extract 0 (w0.size-1),(st.code.length:Int))])) (st.labels.length+1)):=
  Ld w2.drew bm st.labels (w0.extract 0 (w0.size-1),(st.code.length:Int)) f K
 go_wp2_with (go_at_call 186;refine(a5 _).mono ?_;rintro e w' ⟨rfl,rfl⟩)
 go_still_tail 14,(by kernel_rfl)
 change wpList _ _ _ _ _ w2.drew;go_wp2
 obtain⟨a,R⟩:=nm (Ip w2.drew bm (HM (st.labels++[(w0.extract 0 (w0.size-1),(st.code.length:Int))])) (st.labels.length+1));rw[R];have d:Hid (Jv a B p p st.code (st.labels++[(w0.extract 0 (w0.size-1),(st.code.length:Int))]) st.labels st.lines st.bu/\Below B w2 a/\H9 w2 a):=by rw[<-R];exact⟨A.1,Kc A.2.1,A.2.2⟩
 obtain⟨vl,vb,vn,vw,bm,b,l,h,o,c,q,x,m,f⟩:=d.1;obtain⟨ac,bZ,rfl⟩:=H2 h;have g4:a.cell? (p,0)=some (.slice ac st.code.length bZ):=sb b;have U:a.cell? (p,1)=some vb:=sb b;have c0:a.frozen? (p,1)=false:=Jd b;have t0:a.cell? (g,0)=some (.string w0):=(k.keep d.2.2).cell (j:=0) rfl;have G:p<a.heap.size:=(Array.getElem?_eq_some_iff.1 b).1;have cb:g<a.heap.size:=(k.keep d.2.2).lt;have S:vb.ownBlock≠some p:=tw c b (by decide);have g3:vb.ownBlock≠some g:=by
  obtain⟨cur,c9,_⟩:=k.keep d.2.2;exact tw c c9 (by decide)
 have e':B<=a.heap.size:=by omega
 obtain⟨e4,cd,dr,dC,dN⟩:=info_parts M1;have X:=Z cd;have am:=Z b;have a1:=Z h;have ab:=Z o;have ad:=Z q;have bi:=Z x;have a3:=Z f;have ex:=Z k;go_cut [] (fun wc=>Jv wc B p p st.code (st.labels++[(w0.extract 0 (w0.size-1),(st.code.length:Int))]) (st.labels++[(w0.extract 0 (w0.size-1),(st.code.length:Int))]) st.lines st.bu/\Below B a wc/\H9 a wc)
 case first=>
  go_region_law (first|(refine step_append_lies _ (by rfl) _ _ _ (by rfl) B 301 e4 _ 2 24 underlying238 X dr dC dN rfl (by omega) vb st.labels.length (HV st.labels) (by rfl) ((c.alloc _).drew) ⟨a.heap.size,0,none⟩ 1 1 [.string (w0.extract 0 (w0.size-1)),.int .i64 st.code.length] (by rfl) (by rfl) (World.news_of_block (cs:=#[.string (w0.extract 0 (w0.size-1)),.int .i64 st.code.length]) (t:=301) (fr:=(0,0)) (heap_alloc_new a _)) (by simp[Value.oneCell']) (by omega) (by unfold maxLen;omega) (by omega) (by simp;omega) (a.heap.size+1) (by simp) ?_;intro eL eI w4 ct D fk fO;have g5:w4.cell? (p,1)=some vb:=(D.cell_far ⟨p,1,none⟩ (by simp;omega) (Ne.symm S)).trans (by simp[go_sem,World.cell?_alloc_past,G,U]);have g6:w4.frozen? (p,1)=false:=(D.frozen_far ⟨p,1,none⟩ (by simp;omega) (Ne.symm S)).trans (by simp[go_sem,World.frozen?_alloc_past,G,c0])))
  all_goals(go_wp2_with fail;go_meet;exact(M0 (y:=(w0.extract 0 (w0.size-1),(st.code.length:Int))) am l a1 ab c ad bi m a3 (by simpa using ct) (HO (HW D))))
 case rest=>
  obtain⟨gf,cQ⟩:=nm wc;subst cQ;have bv:=hcut;have z:=Z bv;obtain⟨gd,gc,I,ge,eC,i,c4,ci,cm,c6,F,cS,c7,cl⟩:=z.1;have es:wc.cell? (p,2)=some I:=sb i;have c1:wc.frozen? (p,2)=false:=Jd i;have O:p<wc.heap.size:=(Array.getElem?_eq_some_iff.1 i).1;have T:I.ownBlock≠some p:=tw F i (by decide);have fb:B<=wc.heap.size:=by omega
  obtain⟨en,ce,cW,di,dp⟩:=info_parts Ng;have al:=Z i;have a0:=Z ci;have a9:=Z cm;have W:=Z c6;have bd:=Z cS;have a4:=Z cl;have Y:=Z ce;go_wp2_with (at_builtin;refine wpList_append_own _ rfl _ _ 45 rfl B 3 en (.int .i64 0) 1 8 underlying45 Y cW di dp rfl (by decide) _ _ _ rfl (F.alloc _) ⟨wc.heap.size,0,none⟩ 1 1 [line] rfl rfl ?_ ?_ ?_ ?_ ?_ ?_)
  ·intro j u n
   match j,n with
   |0,n=>simp at n;subst n;simp[Addr.add]
  ·first|rfl|(intro u Q;simp at Q;subst Q;rfl)
  ·unfold maxLen;omega
  ·omega
  ·simp;omega
  ·intro g9 V N E _
   have g7:V.cell? (p,2)=some I:=(E.cell_far ⟨p,2,none⟩ (by simp;omega) (Ne.symm T)).trans (by simp[go_sem,World.cell?_alloc_past,O,es]);have g8:V.frozen? (p,2)=false:=(E.frozen_far ⟨p,2,none⟩ (by simp;omega) (Ne.symm T)).trans (by simp[go_sem,World.frozen?_alloc_past,O,c1]);obtain⟨ey,eG,rfl⟩:=H2 N;have bw:=Mv (y:=line) al c4 a0 a9 W F bd c7 a4 (by simpa using N) (HO E);have C:=Z bw;go_wp2
   go_ret;have c3:=(J.mono c2).trans (d.2.1.trans (z.2.1.trans C.2.1));have c5:=(Ir J).trans (d.2.2.trans (z.2.2.trans C.2.2));exact⟨rfl,Jv.whole C.1,c3,c5⟩
def IG(k:Int×Int×Int):Nat:=if k.1=0 then 0 else if k.2.1=0 then 1 else if k.2.2=0 then 2 else 3
def Ij(k:Int×Int×Int)(i:Nat):Int:=if i=0 then k.1 else if i=1 then k.2.1 else k.2.2
def B2(a:List ByteArray)(i:Nat):ByteArray:=a.getD i ByteArray.empty
def HZ(line:Int)(k:Int×Int×Int)(a:List ByteArray):Nat->Nat->w3->be->Except Bool (w3×be)
 |0,_,st,X=> .ok (st,X)
 |f+1,i,st,X=>match IP st X (Ij k i) (B2 a i) line with
  |.ok (c,b)=>HZ line k a f (i+1) c b
  |.error t=> .error t
def Jw(st:w3):Except Bool be->Except Bool w3
 |.ok X=> .ok {st with code:=st.code++[X]}
 |.error t=> .error t
def JB(n:Nat)(a:List ByteArray):Except Bool (w3×be)->Except Bool w3
 |.ok (st,X)=>Jw st (if n<a.length then H4 X (B2 a n)else .ok X)
 |.error t=> .error t
def Kd(op:Int):be:=⟨op,0,0,0,0,0,0⟩
def Ik(n:Nat)(a:List ByteArray):Bool:=decide (a.length≠n/\(a.length≠n+1∨sv (B2 a n) 0≠33))
def IL(st:w3)(w0:ByteArray)(rest:List ByteArray)(line:Int):Except Bool w3:=
 if Kb w0=0 then .error true
 else if Ik (IG (H0 (Kb w0))) rest then .error true
 else JB (IG (H0 (Kb w0))) rest (HZ line (H0 (Kb w0)) rest (IG (H0 (Kb w0))) 0 st (Kd (Kb w0)))
def Mw(w:World)(a:Nat)(k:Int×Int×Int):Prop:=w.heap[a]?=some (.cells #[.int .i64 k.1,.int .i64 k.2.1,.int .i64 k.2.2] 349 (0,0))
theorem JO(k:Int×Int×Int):IG k<=3:=by
 rcases k with⟨a,b,c⟩
 simp only[IG];by_cases a=0<;>by_cases b=0<;>by_cases c=0<;>simp_all
theorem LH(K:Int×Int×Int)(k:Nat)(e:k<=IG K)(d:k<3)(f:Ij K k=0):k=IG K:=by
 rcases K with⟨a,b,c⟩
 have h:k=0∨k=1∨k=2:=by omega
 simp only[IG,Ij]at*;rcases h with rfl|rfl|rfl<;>by_cases a=0<;>by_cases b=0<;>by_cases c=0<;>simp_all
theorem Mx(K:Int×Int×Int)(k:Nat)(e:k<=IG K)(d:k<3)(f:¬Ij K k=0):k<IG K:=by
 rcases K with⟨a,b,c⟩
 have h:k=0∨k=1∨k=2:=by omega
 simp only[IG,Ij]at*;rcases h with rfl|rfl|rfl<;>by_cases a=0<;>by_cases b=0<;>by_cases c=0<;>simp_all
theorem JH{w':World}(h:Below B w.drew w'):Below B w w':=⟨h.os,h.tape,h.output,h.size,h.block⟩
theorem LI(f:Bool×Bool×Bool×Bool):(0<=(I4 f).1/\(I4 f).1<=9)/\(0<=(I4 f).2.1/\(I4 f).2.1<=9)/\(0<=(I4 f).2.2/\(I4 f).2.2<=9):=by
 obtain⟨a,b,c,d⟩:=f;cases a<;>cases b<;>cases c<;>cases d<;>decide
theorem LJ(x:Int):(0<=(H0 x).1/\(H0 x).1<=9)/\(0<=(H0 x).2.1/\(H0 x).2.1<=9)/\(0<=(H0 x).2.2/\(H0 x).2.2<=9):=by
 unfold H0
 repeat(split;·decide)
 exact LI _
theorem LK{x:Int}{K:Int×Int×Int}{i:Nat}(g:i<IG K)(d:H0 x=K):1<=Ij K i/\Ij K i<=9:=by
 have h:=LJ x;rw[d]at h;have f:=JO K;obtain⟨a,b,c⟩:=K;have e:i=0∨i=1∨i=2:=by omega
 simp only[IG,Ij]at*;rcases e with rfl|rfl|rfl<;>by_cases a=0<;>by_cases b=0<;>by_cases c=0<;>simp_all<;>omega
theorem HQ.self{p bx:Nat}{st:w3}(h:HQ w B p bx st):HQ w B p p st:=by
 obtain⟨vl,vb,vn,vw,bm,b,c,a,_,rest⟩:=h;exact⟨vl,vb,vn,vw,bm,b,c,a,tw a b (by decide),rest⟩
theorem L3:(prog.info? 184).map (fun i=>(i.zero,i.size,i.bytes))=some (some (.agg #[.int .i64 0,.int .i64 0,.int .i64 0,.int .i64 0,.int .u64 0,.int .i64 0,.int .i64 0]),7,56):=by kernel_rfl
theorem Kk(s:ByteArray)(b:s.size<=65536)(a:1<=s.size)(line:Int)(bx:Nat)(X:be)(r:Except Bool be)(h:H4 X s=r)(w:World)(c:nb w bx X):
 Calls prog 190 #[(bx,0),.string s,line] w (pk r bx line w):=by rw[<-h];exact LZ s b a line bx X w c
theorem L4{st a:w3}{X b:be}{kd line:Int}{y:ByteArray}(h:IP st X kd y line=.ok (a,b)):a.bu.length<=st.bu.length+1/\a.code.length=st.code.length:=by
 unfold IP at h;split at h
 ·injection h with h;injection h with h _;subst h;simp
 ·split at h
  ·cases h
  ·unfold JW at h
   split at h
   ·injection h with h;injection h with h _;subst h;simp
   ·cases h
theorem Mw.cell{a:Nat}{K:Int×Int×Int}(h:Mw w a K)(k:Nat)(b:k<3):w.cell? (a,k)=some (.int .i64 (Ij K k)):=by
 rw[sb h]
 match k,b with
 |0,_=>rfl
 |1,_=>rfl
 |2,_=>rfl
theorem LL(s:ByteArray)(y:s.size<=65536)(line:Int)(B p:Nat)(st:w3)(w:World)(n:HQ w B p p st)(u:B<=w.heap.size)(w0:ByteArray)(rest:List ByteArray)(o:H3 s=w0::rest)
 (A:1<=w0.size) (C:w0.size<=65536) (a:rest≠[]∨sv w0 (w0.size-1)≠58) (x:rest.length<=65536) (m:Kb w0=0):
 Calls prog 144 #[(p,0),.string s,line] w (HX (.error true) B p line w):=by
 have z:=Z n;have t:=Z o;have p1:w0.size-1<w0.size:=by omega
 have r:=Z m;obtain⟨L,k⟩:=mn (rest.length+1);have E:1<=L:=by omega
 have F:L<=65537:=by omega
 have q:Hid (L=rest.length+1):=k;have d:((L:Int)==1)=false∨(((L:Int)==1)=true/\((w0[w0.size-1].toNat:Int)==58)=false):=by
  rcases Nat.eq_zero_or_pos rest.length with h|h
  ·refine Or.inr ⟨by rw[beq_iff_eq];omega,?_⟩
   rcases a with a|a
   ·exact absurd (List.eq_nil_of_length_eq_zero h) a
   ·rw[ck,beq_eq_false_iff_ne];exact a
  ·exact Or.inl (by rw[beq_eq_false_iff_ne];omega)
 clear n o m k a x;go_in
 go_wp2_with fail
 refine(Io s y w).mono ?_;rintro e w1 ⟨v,rfl,f,c⟩;rw[t]at f;obtain⟨g,cap,rfl,D,l,I,i⟩:=Im.Ju f (by simp);have b:(w0::rest).length=L:=q.symm;rw[b];have t0:w1.cell? (g,0)=some (.string w0):=i.cell (j:=0) rfl;have J:g<w1.heap.size:=i.lt;have H:L<=cap:=by rw[<-b];exact l
 clear f i b l;rcases d with d|⟨d,G⟩
 all_goals
  go_wp2_with (first|(go_at_call 187;refine(Lv _ _).mono ?_;rintro e w' ⟨rfl,rfl⟩;rw[r])|(go_at_call 142;refine(sz _ _ _ _).mono ?_;rintro e w' ⟨rfl,rfl⟩))
  go_ret;exact HX.text rfl (by simp) ((c.mono u).alloc (by have:=c.size;omega) _) (by have:=c.size;simp;omega)
theorem L5(s:ByteArray)(i3:s.size<=65536)(line:Int)(B p:Nat)(st:w3)(w:World)(ge:HQ w B p p st)(e4:B<=w.heap.size)(w0:ByteArray)(rest:List ByteArray)(gk:H3 s=w0::rest)
 (it:1<=w0.size) (iC:w0.size<=65536) (S:rest≠[]∨sv w0 (w0.size-1)≠58) (i2:rest.length<=65536) (go:∀y∈rest,1<=y.size/\y.size<=65536) (eL:Kb w0≠0) (k4:st.bu.length<=1000000) (k5:st.code.length<=1048576):
 Calls prog 144 #[(p,0),.string s,line] w (HX (IL st w0 rest line) B p line w):=by
 have gH:=Z ge;have gW:=Z gk;have p1:w0.size-1<w0.size:=by omega
 have gd:(Kb w0==0)=false:=by rw[beq_eq_false_iff_ne];exact eL
 have gG:=Z eL;have cS:=Z go;clear go;obtain⟨K,g5⟩:=mn (H0 (Kb w0));have gF:=Z g5;clear g5;obtain⟨L,g6⟩:=mn (rest.length+1);have je:1<=L:=by omega
 have jf:L<=65537:=by omega
 have fO:Hid (L=rest.length+1):=g6;have c6:((L:Int)==1)=false∨(((L:Int)==1)=true/\((w0[w0.size-1].toNat:Int)==58)=false):=by
  rcases Nat.eq_zero_or_pos rest.length with h|h
  ·refine Or.inr ⟨by rw[beq_iff_eq];omega,?_⟩
   rcases S with S|S
   ·exact absurd (List.eq_nil_of_length_eq_zero h) S
   ·rw[ck,beq_eq_false_iff_ne];exact S
  ·exact Or.inl (by rw[beq_eq_false_iff_ne];omega)
 clear ge gk eL g6 S i2;go_in
 go_wp2_with fail
 refine(Io s i3 w).mono ?_;rintro e w1 ⟨v,rfl,eS,a5⟩;rw[gW]at eS;obtain⟨g,cap,rfl,iX,g9,hF,c9⟩:=Im.Ju eS (by simp);have es:(w0::rest).length=L:=fO.symm;rw[es];have t0:w1.cell? (g,0)=some (.string w0):=c9.cell (j:=0) rfl;have k0:g<w1.heap.size:=c9.lt;have jR:L<=cap:=by rw[<-es];exact g9
 have gf:=c9;clear eS c9 es g9;obtain⟨x,ca⟩:=mn (Kb w0);have jS:(cap:Int)<=9223372036854775807:=by unfold maxLen at hF;omega
 have gP:=Z gf;have kx:(x==0)=false:=by rw[ca];exact gd
 have g3:=Z ca;have cq:Hid (H0 x=K):=by show _=_;rw[ca];exact gF.symm
 clear ca gd gf;go_upto_region 5 with fail
 go_cut [37] (fun ii wc=>ii=.bool false/\wc=w1)
 case first=>
  rcases c6 with c6|⟨c6,jK⟩
  all_goals
   go_wp2
   go_meet
   exact⟨rfl,rfl⟩
 case rest=>
  obtain⟨rfl,rfl⟩:=hcut;clear c6;go_upto_region 16 with(first|(go_at_call 187;refine(Lv _ _).mono ?_;rintro e w' ⟨rfl,rfl⟩;rw[<-g3])|fail)
  go_cut [7] (fun io bw=>∃o c1 d:Nat,io=.slice (some (g,o)) d c1/\d+1<=L/\L<=d+1/\(2<=L->o=1)/\d<=c1/\c1<=cap/\bw=wc.alloc (.cells #[x,.int .i64 0,.int .i64 0,.int .i64 0,.int .u64 0,.int .i64 0,.int .i64 0] 184))
  case first=>
   by_cases jJ:cap<=1
   ·obtain rfl:cap=1:=by omega
    go_wp2_with fail
    all_goals(go_meet;exact⟨0,0,0,by first|rfl|rw[show L-1=0 from by omega],by omega,by omega,by omega,by omega,by omega,rfl⟩)
   ·go_wp2_with fail
    all_goals(go_meet;exact⟨1,_,L-1,rfl,by omega,by omega,by omega,by omega,by omega,rfl⟩)
  case rest=>
   obtain⟨o,c1,d,rfl,jp,jE,eI,jL,jM,rfl⟩:=hcut;have jI:=a5.size;obtain⟨bx,c5⟩:=mn wc.heap.size;rw[<-c5];have f:Hid (nb (wc.alloc (.cells #[x,.int .i64 0,.int .i64 0,.int .i64 0,.int .u64 0,.int .i64 0,.int .i64 0] 184)) bx (Kd x)):=by
    rw[c5];exact hU
   have cb:=Z c5;clear c5;have bi:(wc.alloc (.cells #[x,.int .i64 0,.int .i64 0,.int .i64 0,.int .u64 0,.int .i64 0,.int .i64 0] 184)).cell? (bx,0)=some (.int .i64 x):=f.cell 0;go_upto_region 18 with(first|(go_at_call 188;refine(Kx _ _).mono ?_;rintro e w' ⟨rfl,a2⟩;rw[cq])|fail)
   obtain⟨dp,ex⟩:=mn (w'.heap.size);rw[<-ex];obtain⟨l,aP⟩:=nm (w'.alloc (.cells #[.int .i64 K.1,.int .i64 K.2.1,.int .i64 K.2.2] 349));rw[aP];have c4:Below wc.heap.size wc l:=by
    rw[<-aP];exact((((Below.refl _ wc).alloc (Nat.le_refl _) _).trans (a2.mono (by simp))).alloc (by have:=a2.size;simp at this;omega) _)
   have gs:nb l bx (Kd x):=by
    have hm:Below (wc.heap.size+1) (wc.alloc (.cells #[x,.int .i64 0,.int .i64 0,.int .i64 0,.int .u64 0,.int .i64 0,.int .i64 0] 184)) l:=by
     rw[<-aP];exact((a2.mono (by simp)).alloc (by have:=a2.size;simp at this;omega) _)
    unfold nb;rw[hm.block bx (by rw[cb];omega)];exact f
   have F:Mw l dp K:=(by rw[<-aP,ex];exact hU);have W:=Z c4;have gY:=Z gs;have fL:=Z F;have et:B<=bx:=(by rw[cb];omega);have gO:Hid (HQ l B p bx st):=((gH.below a5).fresh bx (by rw[cb];exact Nat.le_refl _)).below c4;have cL:Hid (Im l g (w0::rest)):=gP.keep (Ir c4);clear c4 gs F aP a2 bi f ex;go_upto_block 0 with fail
   go_cut [13] (fun i9 bw=>i9=.int .i64 (IG K)/\l=bw)
   case first=>
    go_wp2
    go_loop [13] (fun n=>∃k:Nat,k<=IG K/\n=.int .i64 k) (fun n=>4-(intOf n).toNat)
    case atStart=>exact⟨0,Nat.zero_le _,rfl⟩
    case round=>
     obtain⟨k,gc,rfl⟩:=hrel;have k3:=JO K;by_cases dN:k<3
     ·have g4:=fL.cell k dN
      by_cases V:Ij K k=0
      ·have i6:(Ij K k !=0)=false:=by rw[bne_eq_false_iff_eq];exact V
       have c7:Hid (k=IG K):=LH K k gc dN V;clear V;go_wp2
       all_goals(go_meet;exact⟨by rw[c7.out],rfl⟩)
      ·have i6:(Ij K k !=0)=true:=by rw[bne_iff_ne];exact V
       have c7:=Mx K k gc dN V;clear V;go_wp2
       all_goals
        go_round
        case rel=>exact⟨k+1,by omega,by go_num⟩
        case measure=>simp[intOf];omega
     ·have c7:Hid (k=IG K):=by show _=_;omega
      go_wp2
      all_goals(go_meet;exact⟨by rw[c7.out],rfl⟩)
   case rest=>
    obtain⟨rfl,rfl⟩:=hcut;obtain⟨n,c8⟩:=mn (IG K);rw[<-c8];have kb:n<=3:=(by rw[c8];exact JO K);have fT:=Z c8;have g7:rest.length=d:=(by have:=fO.out;omega);have A:=Z g7;clear c8 g7;go_upto_region 21 with fail
    go_cut [152] (fun s bw=>s=.bool (Ik n rest)/\l=bw)
    case first=>
     by_cases P:d=n
     ·have hd:((d:Int) !=(n:Int))=false:=by rw[bne_eq_false_iff_eq];omega
      have bX:Hid (Ik n rest=false):=(by show _=_;unfold Ik;rw[decide_eq_false_iff_not];intro h;exact h.1 (A.trans P));clear P;go_wp2
      all_goals(go_meet;exact⟨by rw[bX],rfl⟩)
     ·have hd:((d:Int) !=(n:Int))=true:=by rw[bne_iff_ne];omega
      by_cases dr:d=n+1
      ·obtain rfl:o=1:=eI (by omega)
       have q:(rest)[n]?=some (B2 rest n):=by
        unfold B2;rw[List.getD_eq_getElem?_getD,List.getElem?_eq_getElem (by rw[A];omega)];rfl
       have r:=(cS (B2 rest n) (List.mem_of_getElem? q)).1;have c2:l.cell? ⟨g,1+n,none⟩=some (.string (B2 rest n)):=by
        rw[Nat.add_comm];exact cL.cell (j:=n+1) q
       have he:((d:Int) !=(n:Int)+1)=false:=(by rw[bne_eq_false_iff_eq];omega);have kf:n<d:=(by omega);have kG:0<(B2 rest n).size:=(by omega);have bX:Hid (Ik n rest=decide (sv (B2 rest n) 0≠33)):=by
        show _=_;unfold Ik;rw[decide_eq_decide,A];exact⟨fun h=>(h.2.resolve_left (by omega)),fun h=>⟨P,Or.inr h⟩⟩
       have ip:=Z q;clear P dr q;by_cases Q:sv (B2 rest n) 0=33
       ·have hf:(((B2 rest n)[0].toNat:Int) !=33)=false:=by rw[ck,bne_eq_false_iff_eq];exact Q
        have X:Hid (Ik n rest=false):=(by show _=_;rw[bX,decide_eq_false_iff_not];exact fun h=>h Q);clear Q;go_wp2
        all_goals(go_meet;exact⟨by rw[X],rfl⟩)
       ·have hf:(((B2 rest n)[0].toNat:Int) !=33)=true:=by rw[ck,bne_iff_ne];exact Q
        have X:Hid (Ik n rest=true):=(by show _=_;rw[bX,decide_eq_true_eq];exact Q);clear Q;go_wp2
        all_goals(go_meet;exact⟨by rw[X],rfl⟩)
      ·have he:((d:Int) !=(n:Int)+1)=true:=by rw[bne_iff_ne];omega
       have X:Hid (Ik n rest=true):=(by show _=_;unfold Ik;rw[decide_eq_true_eq,A];exact⟨P,Or.inl dr⟩);clear P dr;go_wp2
       all_goals(go_meet;exact⟨by rw[X],rfl⟩)
    case rest=>
     obtain⟨rfl,rfl⟩:=hcut;have cQ:Hid (IL st w0 rest line=if Ik n rest then .error true else JB n rest (HZ line K rest n 0 st (Kd x))):=by
      show _=_
      unfold IL;rw[if_neg gG.out,<-g3,cq,<-fT]
     by_cases R:Ik n rest=true
     ·have a1:Hid (IL st w0 rest line=.error true):=by show _=_;rw[cQ,if_pos R]
      rw[R];clear R;go_wp2_with (go_at_call 142;refine(sz _ _ _ _).mono ?_;rintro e w' ⟨rfl,rfl⟩)
      go_ret;exact HX.text a1 (by simp) ((a5.mono e4).trans (W.mono (by omega))) (by have:=W.size;omega)
     ·have eC:Ik n rest=false:=by simpa using R
      have a1:Hid (IL st w0 rest line=JB n rest (HZ line K rest n 0 st (Kd x))):=(by show _=_;rw[cQ,if_neg R]);have c3:d=n∨d=n+1:=by
       have h:=of_decide_eq_false eC;rw[A]at h;omega
      clear R cQ;have jG:n<=d:=(by omega);have jH:d<=n+1:=(by omega);clear c3;have fz:Hid (Below w.heap.size w l):=a5.trans (W.mono (by omega));have kh:=W.size;have kw:B<=l.heap.size:=(by omega);rw[eC];clear eC;go_wp2
      go_loopw [157] (fun ih wr=>∃(i:Nat) (c:w3) (a:be),i<=n/\ih=.int .i64 i/\HQ wr B p bx c/\nb wr bx a/\Below B l wr/\H9 l wr/\c.bu.length<=1000000+i/\Hid (c.code.length=st.code.length)/\Hid (HZ line K rest (n-i) i c a=HZ line K rest n 0 st (Kd x))) (fun s _=>4-(intOf s).toNat)
      case atStart=>exact⟨0,st,Kd x,by omega,rfl,gO,gY,Below.refl _ _,H9.refl _,by omega,rfl,rfl⟩
      case round=>
       obtain⟨i,c,a,k1,rfl,av,bd,a3,T,kv,ch,bZ⟩:=hrel;have kt:=a3.size;by_cases hS:i<n
       ·have k2:i<d:=by omega
        obtain rfl:o=1:=eI (by omega);have q:rest[i]?=some (B2 rest i):=by
         unfold B2;rw[List.getD_eq_getElem?_getD,List.getElem?_eq_getElem (by rw[A];omega)];rfl
        have r:=(cS (B2 rest i) (List.mem_of_getElem? q)).2;have c2:wr.cell? (g,1+i)=some (.string (B2 rest i)):=by
         rw[Nat.add_comm];exact(cL.keep T).cell (j:=i+1) q
        have g4:wr.cell? (dp,i)=some (.int .i64 (Ij K i)):=Mw.cell (T dp _ 349 _ (Or.inr (Or.inr rfl)) fL) i (by omega);obtain⟨kd,F⟩:=mn (Ij K i);obtain⟨y,M⟩:=mn (B2 rest i);rw[<-F]at g4;rw[<-M]at c2 r;have eG:1<=kd/\kd<=9:=(by rw[F];exact LK (by rw[<-fT];exact hS) cq);have z:=Z (KR y r kd line eG.1 eG.2 B p bx c a wr.drew bd av et (by omega));have cl:Hid (HZ line K rest (n-i) i c a=match IP c a kd y line with|.ok (bv,b)=>HZ line K rest (n-(i+1)) (i+1) bv b|.error t=> .error t):=by
         show _=_
         rw[show n-i=(n-(i+1))+1 from by omega,HZ,<-F,<-M]
        have cF:=Z av;have f:=Z bd;have O:=Z a3;have Y:=Z T;have i5:(i:Int)<(d:Int):=(by omega);have kN:(0:Int)<=(i:Int):=(by omega);have kO:(i:Int)<3:=(by omega);clear av bd a3 T eG F M q;go_wp2
        go_still_tail 9,(by kernel_rfl)
        change wpList _ _ _ _ _ wr.drew;rcases H:IP c a kd y line with tt|⟨bv,b⟩
        ·have ce:Hid (Calls prog 189 #[(p,0),(bx,0),kd,.string y,line] wr.drew (Ie (.error tt) B p bx line wr.drew)):=by
          have h:=z.out;rw[H]at h;exact h
         have D:Hid (IL st w0 rest line=.error tt):=by
          show _=_;rw[a1,<-bZ,cl,H];rfl
         clear H z;go_wp2_with (go_at_call 189;refine ce.mono ?_;rintro e w' ⟨v,rfl,⟨hb,inner,rfl,g8,eA,e'⟩,hw⟩)
         go_ret;rw[D];exact⟨_,rfl,⟨_,_,rfl,g8,eA,e'⟩,(fz.mono e4).trans (O.trans (JH hw))⟩
        ·have ce:Hid (Calls prog 189 #[(p,0),(bx,0),kd,.string y,line] wr.drew (Ie (.ok (bv,b)) B p bx line wr.drew)):=by
          have h:=z.out;rw[H]at h;exact h
         have gt:Hid (HZ line K rest (n-i) i c a=HZ line K rest (n-(i+1)) (i+1) bv b):=by
          show _=_;rw[cl,H]
         have g0:=Z (L4 H);clear H z cl;go_wp2_with (go_at_call 189;refine ce.mono ?_;rintro e w' ⟨rfl,i1,i4,hv,hT⟩)
         go_roundw
         case rel=>exact⟨i+1,bv,b,by omega,by go_num,i1,i4,O.trans (JH hv),Y.trans hT,by have:=g0.1;omega,g0.2.trans ch,by show _=_;rw[<-gt];exact bZ⟩
         case measure=>simp[intOf];omega
       ·obtain rfl:n=i:=by omega
        have fK:Hid (HZ line K rest n 0 st (Kd x)=.ok (c,a)):=by
         have h:=bZ.out;rw[Nat.sub_self,HZ]at h;exact h.symm
        have c0:Hid (IL st w0 rest line=Jw c (if n<d then H4 a (B2 rest n)else .ok a)):=by
         show _=_;rw[a1,fK];unfold JB;rw[A]
        have cF:=Z av;have f:=Z bd;have O:=Z ((fz.mono e4).trans a3);have Y:=Z T;have fM:Hid (H9 w l):=(Ir a5).trans (Ir W);clear av bd a3 T bZ a1 fK;by_cases c3:n<d
        ·obtain rfl:o=1:=eI (by omega)
         have q:rest[n]?=some (B2 rest n):=by
          unfold B2;rw[List.getD_eq_getElem?_getD,List.getElem?_eq_getElem (by rw[A];omega)];rfl
         have r:=cS (B2 rest n) (List.mem_of_getElem? q);have c2:wr.cell? ⟨g,1+n,none⟩=some (.string (B2 rest n)):=by
          rw[Nat.add_comm];exact(cL.keep Y).cell (j:=n+1) q
         have g1:Hid (IL st w0 rest line=Jw c (H4 a (B2 rest n))):=(by show _=_;rw[c0,if_pos c3]);obtain⟨y,M⟩:=mn (B2 rest n);rw[<-M]at c2 r;have g2:Hid (IL st w0 rest line=Jw c (H4 a y)):=(by show _=_;rw[M];exact g1);clear M q c0 g1;have i5:(n:Int)<(d:Int):=(by omega);rcases U:H4 a y with tt|b
         ·have z:=Z (Kk y r.2 r.1 line bx a _ U wr f)
          have D:Hid (IL st w0 rest line=.error tt):=(by show _=_;rw[g2,U];rfl);clear U r;go_wp2_with (go_at_call 190;refine z.mono ?_;rintro e w' ⟨v,rfl,⟨hb,inner,rfl,g8,eA,e'⟩,a9⟩)
          go_ret;rw[D];exact⟨_,rfl,⟨_,_,rfl,by omega,eA,e'⟩,O.trans (Jc et f.lt a9)⟩
         ·have z:=Z (Kk y r.2 r.1 line bx a _ U wr f)
          have D:Hid (IL st w0 rest line=.ok {c with code:=c.code++[b]}):=(by show _=_;rw[g2,U];rfl);clear U r;go_wp2_with (first|(go_at_call 190;refine z.mono ?_;rintro e w' ⟨rfl,gr,a9⟩)|fail)
          have C:=Z gr;have ci:=Z a9;have ku:=a9.size;clear gr a9;have di:=(cF.grown f ci).self;obtain⟨vl,vb,vn,vw,bm,m,en,G,al,a4,am,bb,ey,ad⟩:=di;have bi:w'.cell? (p,0)=some vl:=sb m;have dC:w'.frozen? (p,0)=false:=Jd m;have x0:w'.cell? (bx,0)=some (.int .i64 b.op):=(C).cell 0;have x1:w'.cell? (bx,1)=some (.int .i64 b.a):=(C).cell 1;have x2:w'.cell? (bx,2)=some (.int .i64 b.b):=(C).cell 2;have x3:w'.cell? (bx,3)=some (.int .i64 b.c):=(C).cell 3;have x4:w'.cell? (bx,4)=some (.int .u64 b.v):=(C).cell 4;have x5:w'.cell? (bx,5)=some (.int .i64 b.m):=(C).cell 5;have x6:w'.cell? (bx,6)=some (.int .i64 b.wh):=(C).cell 6;have I:p<w'.heap.size:=(Array.getElem?_eq_some_iff.1 m).1;have hB:bx<w'.heap.size:=(C).lt;have J:vl.ownBlock≠some p:=tw G m (by decide);obtain⟨fn,ab,fb,fd,fk⟩:=info_parts L3;have cm:=Z ab;have a0:=Z m;have cA:=Z al;have cd:=Z a4;have cC:=Z am;have cW:=Z bb;have ct:=Z ad;have hE:c.code.length<=1048576:=(by have:=ch.out;omega);have hn:B<=w'.heap.size:=(by omega);clear ab m al a4 am bb ad;go_wp2
          go_region_law (first|(refine step_append_lies _ (by rfl) _ _ _ (by rfl) B 184 fn _ 7 56 underlying75 cm fb fd fk rfl (by omega) vl c.code.length (b4 c.code) (by rfl) ((G.alloc _).drew) ⟨w'.heap.size,0,none⟩ 1 1 [b.op,b.a,b.b,b.c,.int .u64 b.v,b.m,b.wh] (by rfl) (by rfl) (World.news_of_block (cs:=#[b.op,b.a,b.b,b.c,.int .u64 b.v,b.m,b.wh]) (t:=184) (fr:=(0,0)) (heap_alloc_new w' _)) (by simp[Value.oneCell']) (by omega) (by unfold maxLen;omega) (by omega) (by simp;omega) (w'.heap.size+1) (by simp) ?_;intro hi hh N ap u hu i0;have i7:N.cell? (p,0)=some vl:=(u.cell_far ⟨p,0,none⟩ (by simp;omega) (Ne.symm J)).trans (by simp[go_sem,World.cell?_alloc_past,I,bi]);have i8:N.frozen? (p,0)=false:=(u.frozen_far ⟨p,0,none⟩ (by simp;omega) (Ne.symm J)).trans (by simp[go_sem,World.frozen?_alloc_past,I,dC])))
          all_goals
           go_wp2
           go_ret;have eW:N.heap[p]?=some (.cells #[vl,vb,vn,.map (some bm),vw] 296 (0,0)):=by
            rw[(HO (HW u)).block p I (Ne.symm J)];exact a0
           have E:=Lw (y:=b) a0 en G cA cd cC cW ey ct (by simpa[aD]using ap) (HO (HW u)) (tw ap eW (by decide));rw[D];exact⟨rfl,Jv.whole (st:={c with code:=c.code++[b]}) E.1,(O.trans (Jc et f.lt ci)).trans E.2.1,((fM.trans Y).trans (Ki f ci)).trans E.2.2⟩
        ·have D:Hid (IL st w0 rest line=.ok {c with code:=c.code++[a]}):=by show _=_;rw[c0,if_neg c3];rfl
         clear c0;have di:=(cF).self;obtain⟨vl,vb,vn,vw,bm,m,en,G,al,a4,am,bb,ey,ad⟩:=di;have bi:wr.cell? (p,0)=some vl:=sb m;have dC:wr.frozen? (p,0)=false:=Jd m;have x0:wr.cell? (bx,0)=some (.int .i64 a.op):=(f).cell 0;have x1:wr.cell? (bx,1)=some (.int .i64 a.a):=(f).cell 1;have x2:wr.cell? (bx,2)=some (.int .i64 a.b):=(f).cell 2;have x3:wr.cell? (bx,3)=some (.int .i64 a.c):=(f).cell 3;have x4:wr.cell? (bx,4)=some (.int .u64 a.v):=(f).cell 4;have x5:wr.cell? (bx,5)=some (.int .i64 a.m):=(f).cell 5;have x6:wr.cell? (bx,6)=some (.int .i64 a.wh):=(f).cell 6;have I:p<wr.heap.size:=(Array.getElem?_eq_some_iff.1 m).1;have hB:bx<wr.heap.size:=(f).lt;have J:vl.ownBlock≠some p:=tw G m (by decide);obtain⟨fn,ab,fb,fd,fk⟩:=info_parts L3;have cm:=Z ab;have a0:=Z m;have cA:=Z al;have cd:=Z a4;have cC:=Z am;have cW:=Z bb;have ct:=Z ad;have hE:c.code.length<=1048576:=(by have:=ch.out;omega);have hn:B<=wr.heap.size:=(by omega);clear ab m al a4 am bb ad;go_wp2
         go_region_law (first|(refine step_append_lies _ (by rfl) _ _ _ (by rfl) B 184 fn _ 7 56 underlying75 cm fb fd fk rfl (by omega) vl c.code.length (b4 c.code) (by rfl) ((G.alloc _).drew) ⟨wr.heap.size,0,none⟩ 1 1 [a.op,a.a,a.b,a.c,.int .u64 a.v,a.m,a.wh] (by rfl) (by rfl) (World.news_of_block (cs:=#[a.op,a.a,a.b,a.c,.int .u64 a.v,a.m,a.wh]) (t:=184) (fr:=(0,0)) (heap_alloc_new wr _)) (by simp[Value.oneCell']) (by omega) (by unfold maxLen;omega) (by omega) (by simp;omega) (wr.heap.size+1) (by simp) ?_;intro hi hh N ap u hu i0;have i7:N.cell? (p,0)=some vl:=(u.cell_far ⟨p,0,none⟩ (by simp;omega) (Ne.symm J)).trans (by simp[go_sem,World.cell?_alloc_past,I,bi]);have i8:N.frozen? (p,0)=false:=(u.frozen_far ⟨p,0,none⟩ (by simp;omega) (Ne.symm J)).trans (by simp[go_sem,World.frozen?_alloc_past,I,dC])))
         all_goals
          go_wp2
          go_ret;have eW:N.heap[p]?=some (.cells #[vl,vb,vn,.map (some bm),vw] 296 (0,0)):=by
           rw[(HO (HW u)).block p I (Ne.symm J)];exact a0
          have E:=Lw (y:=a) a0 en G cA cd cC cW ey ct (by simpa[aD]using ap) (HO (HW u)) (tw ap eW (by decide));rw[D];exact⟨rfl,Jv.whole (st:={c with code:=c.code++[a]}) E.1,O.trans E.2.1,(fM.trans Y).trans E.2.2⟩
def KU(st:w3)(nm:ByteArray)(line:Int):Except Bool w3:=
 match HY st.labels nm 0 with
 |some _=> .error true
 |none=>if Iy nm then .ok {st with labels:=st.labels++[(nm,(st.code.length:Int))],lines:=st.lines++[line]}else .error true
def JZ(st:w3)(line:Int):List ByteArray->Except Bool w3
 |[]=> .ok st
 |w0::rest=>if rest=[]/\sv w0 (w0.size-1)=58 then KU st (w0.extract 0 (w0.size-1)) line else IL st w0 rest line
def J0(st:w3)(s:ByteArray)(line:Int):Except Bool w3:=JZ st line (H3 s)
theorem L6(s:ByteArray)(D:s.size<=65536)(line:Int)(B p:Nat)(st:w3)(w:World)(c:HQ w B p p st)(b:B<=w.heap.size)
 (z:st.bu.length<=1000000) (k:st.code.length<=1048576) (A:st.labels.length<=1048576) (C:st.lines.length<=1048576):
 Calls prog 144 #[(p,0),.string s,line] w (HX (J0 st s line) B p line w):=by
 have d:s.size<=65536:=by omega
 obtain⟨i,r⟩:=KT s;unfold J0;rcases a:H3 s with _|⟨w0,rest⟩
 ·exact LG s d line B p st w c b a
 ·rw[a]at i r
  have f:=i w0 (by simp);have u:rest.length<=65536:=by simp at r;omega
  by_cases l:rest=[]/\sv w0 (w0.size-1)=58
  ·obtain⟨rfl,g⟩:=l
   have e:JZ st line [w0]=KU st (w0.extract 0 (w0.size-1)) line:=if_pos ⟨rfl,g⟩;rw[e];unfold KU;rcases m:HY st.labels (w0.extract 0 (w0.size-1)) 0 with _|j
   ·by_cases n:Iy (w0.extract 0 (w0.size-1))=true
    ·simp only[n,if_true]
     exact Lf s d line B p st w c b w0 a f.1 (by omega) g m n A C
    ·have t:Iy (w0.extract 0 (w0.size-1))=false:=by simpa using n
     simp only[t,Bool.false_eq_true,if_false];exact Kz s d line B p st w c b w0 a f.1 (by omega) g m t
   ·exact Le s d line B p st w c b w0 a f.1 (by omega) g j m
  ·have e:JZ st line (w0::rest)=IL st w0 rest line:=if_neg l
   rw[e];have q:rest≠[]∨sv w0 (w0.size-1)≠58:=by
    by_cases h:rest=[]
    ·exact Or.inr fun k=>l ⟨h,k⟩
    ·exact Or.inl h
   by_cases o:Kb w0=0
   ·have x:IL st w0 rest line=.error true:=if_pos o
    rw[x];exact LL s d line B p st w c b w0 rest a f.1 (by omega) q u o
   ·exact L5 s d line B p st w c b w0 rest a f.1 (by omega) q u (fun y v=>⟨(i y (by simp[v])).1,by have:=(i y (by simp[v])).2;omega⟩) o z k
structure Lg(st:w3):Prop where
 same:st.labels.length=st.lines.length
 want:∀x∈st.bu,0<=x.1/\x.1<st.code.length
 Mq:∀b∈st.labels,0<=b.2/\b.2<=st.code.length
structure Lh(st st':w3):Prop where
 code:st'.code.length<=st.code.length+1
 labels:st'.labels.length<=st.labels.length+1
 lines:st'.lines.length<=st.lines.length+1
 bu:st'.bu.length<=st.bu.length+3
theorem Li{st a:w3}{X b:be}{kd line:Int}{y:ByteArray}(h:IP st X kd y line=.ok (a,b)):
 a.code=st.code/\a.labels=st.labels/\a.lines=st.lines/\(a.bu=st.bu∨a.bu=st.bu++[((st.code.length:Int),line,y)]):=by
 unfold IP at h;split at h
 ·injection h with h;injection h with h _;subst h;exact⟨rfl,rfl,rfl,Or.inr rfl⟩
 ·split at h
  ·cases h
  ·unfold JW at h
   split at h
   ·injection h with h;injection h with h _;subst h;exact⟨rfl,rfl,rfl,Or.inl rfl⟩
   ·cases h
theorem Jx(line:Int)(K:Int×Int×Int)(e:List ByteArray):∀(f i:Nat) (st:w3) (X:be) (b:w3) (c:be),HZ line K e f i st X=.ok (b,c)->
 b.code=st.code/\b.labels=st.labels/\b.lines=st.lines/\b.bu.length<=st.bu.length+f/\(∀x∈b.bu,x∈st.bu∨x.1=st.code.length)
 |0,i,st,X,b,c,h=>by
  unfold HZ at h;injection h with h;injection h with h _;subst h
  exact⟨rfl,rfl,rfl,by omega,fun x a=>Or.inl a⟩
 |f+1,i,st,X,b,c,h=>by
  unfold HZ at h;split at h
  ·rename_i o g n
   obtain⟨a1,a2,a3,a4⟩:=Li n;obtain⟨j,k,l,d,m⟩:=Jx line K e f (i+1) o g b c h;refine⟨j.trans a1,k.trans a2,l.trans a3,?_,fun x a=> ?_⟩
   ·rcases a4 with a4|a4
    ·rw[a4]at d;omega
    ·rw[a4]at d;simp at d;omega
   ·rcases m x a with a|a
    ·rcases a4 with a4|a4
     ·rw[a4]at a;exact Or.inl a
     ·rw[a4]at a
      rcases List.mem_append.1 a with a|a
      ·exact Or.inl a
      ·have:=List.mem_singleton.1 a;subst this;exact Or.inr rfl
    ·exact Or.inr (by rw[a,a1])
  ·cases h
theorem My{st i:w3}{w0:ByteArray}{rest:List ByteArray}{line:Int}(g:Lg st)(h:IL st w0 rest line=.ok i):Lg i/\Lh st i:=by
 unfold IL at h;split at h
 ·cases h
 ·split at h
  ·cases h
  ·rcases f:HZ line (H0 (Kb w0)) rest (IG (H0 (Kb w0))) 0 st (Kd (Kb w0))with t|⟨c,l⟩
   ·rw[f]at h;cases h
   ·rw[f]at h
    obtain⟨d,e,j,m,k⟩:=Jx _ _ _ _ _ _ _ _ _ f;have n:=JO (H0 (Kb w0));have key:∀X,Lg {c with code:=c.code++[X]}/\Lh st {c with code:=c.code++[X]}:=by
     intro X;refine⟨⟨by rw[e,j];exact g.same,fun x a=> ?_,fun b hb=> ?_⟩,⟨by simp[d],by simp[e],by simp[j],by simp;omega⟩⟩
     ·simp only[List.length_append,List.length_singleton,d]
      rcases k x a with a|a
      ·have:=g.want x a;exact⟨this.1,by push_cast;omega⟩
      ·rw[a];exact⟨by omega,by push_cast;omega⟩
     ·simp only[List.length_append,List.length_singleton,d]
      have hb:b∈st.labels:=(by rw[<-e];exact hb);have:=g.Mq b hb;exact⟨this.1,by push_cast;omega⟩
    unfold JB Jw at h;dsimp only at h;split at h
    ·rename_i X _
     injection h with h;subst h;exact key X
    ·cases h
theorem L7{st c:w3}{s:ByteArray}{line:Int}(a:Lg st)(h:J0 st s line=.ok c):Lg c/\Lh st c:=by
 unfold J0 at h;rcases d:H3 s with _|⟨w0,rest⟩
 ·rw[d]at h
  unfold JZ at h;injection h with h;subst h
  exact⟨a,⟨by omega,by omega,by omega,by omega⟩⟩
 ·rw[d]at h
  replace h:(if rest=[]/\sv w0 (w0.size-1)=58 then KU st (w0.extract 0 (w0.size-1)) line else IL st w0 rest line)=.ok c:=h
  split at h
  ·unfold KU at h
   split at h
   ·cases h
   ·split at h
    ·injection h with h;subst h
     refine⟨⟨by simp[a.same],a.want,fun b hb=> ?_⟩,⟨by simp,by simp,by simp,by simp⟩⟩;rcases List.mem_append.1 hb with hb|hb
     ·exact a.Mq b hb
     ·have:=List.mem_singleton.1 hb;subst this;exact⟨by dsimp only;omega,by dsimp only;omega⟩
    ·cases h
  ·exact My a h
def Il:List ByteArray->Int->w3->Except (Bool×Int) w3
 |[],_,st=> .ok st
 |l::ls,i,st=>match J0 st l i with
  |.ok a=>Il ls (i+1) a
  |.error t=> .error (t,i)
def Hl(code:List be)(at_:Nat)(v:Int):List be:=code.modify at_ fun X=>{X with v:=v}
def L8(l:List (ByteArray×Int))(j:Nat):Int:=((l[j]?).map (·.2)).getD 0
def IJ(labels:List (ByteArray×Int)):List (Int×Int×ByteArray)->List be->Option (List be)
 |[],code=>some code
 |x::xs,code=>match HY labels x.2.2 0 with
  |some j=>IJ labels xs (Hl code x.1.toNat (L8 labels j))
  |none=>none
def IQ:w3:=⟨[],[],[],[]⟩
def ID(st:w3):Option (List be×List (ByteArray×Int)):=
 match IJ st.labels st.bu st.code with
 |none=>none
 |some code=>if 2048<code.length then none else if st.labels.any (fun b=>b.2==(code.length:Int))then none else some (code,st.labels)
def IK(ls:List ByteArray):Except (Bool×Int) (List be×List (ByteArray×Int)):=
 match Il ls 0 IQ with
 |.error t=> .error t
 |.ok st=>match ID st with
  |some r=> .ok r
  |none=> .error (false,0)
def MR:ByteArray:=⟨#[10]⟩
def Is(s:ByteArray):List ByteArray:=Lib.splitB MR 0 (Lib.countB s MR) s
def Iu(s:ByteArray):Except (Bool×Int) (List be×List (ByteArray×Int)):=IK (Is s)
theorem JI(sep:ByteArray):∀(k:Nat) (s:ByteArray),∀x∈Lib.splitB sep 0 k s,x.size<=s.size
 |0,s,x,a=>by have:=List.mem_singleton.1 a;subst this;exact Nat.le_refl _
 |k+1,s,x,a=>by
  unfold Lib.splitB at a;split at a
  ·have:=List.mem_singleton.1 a;subst this;exact Nat.le_refl _
  ·rcases List.mem_cons.1 a with rfl|a
   ·simp;omega
   ·have:=JI sep k _ x a
    simp at this;omega
theorem Jy(s:ByteArray):(Is s).length=Lib.countB s MR+1:=Lib.splitB_all MR (by decide) 0 _ s rfl
theorem KV(s:ByteArray):(Is s).length<=s.size+1:=by
 rw[Jy];have:=Lib.countB_le MR (by decide) s.size s (Nat.le_refl _);omega
def M2(r:Except (Bool×Int) (List be×List (ByteArray×Int)))(w:World)(e:Ending)(w':World):Prop:=
 match r with
 |.ok (code,labels)=>∃vl vb,e=.returned (.tuple #[vl,vb,.nilIface])/\w'.ownsRow w.heap.size 184 7 vl code.length (b4 code)/\w'.ownsRow w.heap.size 301 2 vb labels.length (HV labels)/\Below w.heap.size w w'
 |.error (t,i)=>∃line v,e=.returned (.tuple #[.slice none 0 0,.slice none 0 0,v])/\JU w' w.heap.size line t v/\(t=true->line=i)/\Below w.heap.size w w'
theorem L9:Lg IQ:=⟨rfl,(fun x a=>by cases a),(fun x a=>by cases a)⟩
variable{c j n:Nat}{e:TypeId}{xs:List Value}
theorem IE{size:Nat}(h:w.ownsRow B e size (.slice (some (g,0)) n c) n xs):
 ∃cur:Array Value,w.heap[g]?=some (.cells cur e (0,0))/\n<=c/\c<=maxLen/\cur.size=c*size/\cur.toList.take (n*size)=xs/\B<=g/\xs.length=n*size:=by
 rcases h.2 with⟨b,_⟩|⟨p,cap,cur,b,f,k,i,l,m,o⟩
 ·cases b
 ·injection b with a q d
  injection a with a
  injection a with a _ _
  subst a;subst d;exact⟨cur,k,i,l,m,o,f,h.1⟩
theorem IS{size:Nat}{v:Value}(h:w.ownsRow B e size v n xs)(b:0<n):∃g c,v=.slice (some ⟨g,0,none⟩) n c:=by
 rcases h.2 with⟨_,a⟩|⟨g,cap,cur,rfl,_⟩
 ·omega
 ·exact⟨g,cap,rfl⟩
theorem Ih{size:Nat}(h:w.ownsRow B e size (.slice (some (g,0)) n c) n xs){u:Value}(a:xs[j]?=some u):w.cell? (g,j)=some u:=by
 obtain⟨cur,b,f,k,l,d,_,i⟩:=IE h;rw[sb b];rw[<-d,List.getElem?_take]at a;split at a
 ·simpa using a
 ·cases a
theorem LM{size:Nat}(h:w.ownsRow B e size (.slice (some (g,0)) n c) n xs)(j:Nat):w.frozen? (g,j)=false:=by
 obtain⟨cur,a,_⟩:=IE h;exact Jd a
theorem KB{size:Nat}(h:w.ownsRow B e size (.slice (some (g,0)) n c) n xs)(m:j<xs.length)(u:Value):
 (w.setCell (g,j) u).ownsRow B e size (.slice (some (g,0)) n c) n (xs.set j u):=by
 obtain⟨cur,d,b,i,k,l,a,f⟩:=IE h;refine⟨by simpa using f,Or.inr ⟨g,c,cur.setIfInBounds j u,rfl,a,HS d,b,i,by simpa using k,?_⟩⟩;rw[Array.toList_setIfInBounds,List.take_set,l]
theorem Kl:∀(l:List be) (a:Nat) (X:be),l[a]?=some X->(b4 l)[a*7+4]?=some (.int .u64 X.v)
 |[],a,X,h=>by simp at h
 |Y::l,0,X,h=>by
  have:Y=X:=by simpa using h
  subst this;rfl
 |Y::l,a+1,X,h=>by
  rw[kA,List.getElem?_append_right (by simp[aD];omega)];have:=Kl l a X (by simpa using h);rw[show(a+1)*7+4-(aD Y).toList.length=a*7+4 from by simp[aD];omega];exact this
theorem JJ:∀(l:List be) (a:Nat) (v:Int),a<l.length->(b4 l).set (a*7+4) (.int .u64 v)=b4 (Hl l a v)
 |[],a,v,h=>by simp at h
 |Y::l,0,v,h=>rfl
 |Y::l,a+1,v,h=>by
  have ih:=JJ l a v (by simpa using h);unfold Hl at ih⊢;rw[List.modify_succ_cons,kA,kA,<-ih,List.set_append_right _ _ (by simp[aD];omega)]
  congr 2
  simp[aD];omega
theorem J1(l:List be)(a:Nat)(v:Int):(Hl l a v).length=l.length:=by simp[Hl]
theorem I6:∀(l:List (Int×Int×ByteArray)) (j:Nat) (x:Int×Int×ByteArray),l[j]?=some x->(HP l)[j*3]?=some (.int .i64 x.1)/\(HP l)[j*3+1]?=some (.int .i64 x.2.1)/\(HP l)[j*3+2]?=some (.string x.2.2)
 |[],j,x,h=>by simp at h
 |y::l,0,x,h=>by
  have:y=x:=by simpa using h
  subst this;exact⟨rfl,rfl,rfl⟩
 |y::l,j+1,x,h=>by
  obtain⟨a,b,d⟩:=I6 l j x (by simpa using h);have e:HP (y::l)=[.int .i64 y.1,.int .i64 y.2.1,.string y.2.2]++HP l:=rfl;rw[e];refine⟨?_,?_,?_⟩
  ·rw[List.getElem?_append_right (by simp;omega),show(j+1)*3-_=j*3 from by simp;omega];exact a
  ·rw[List.getElem?_append_right (by simp;omega),show(j+1)*3+1-_=j*3+1 from by simp;omega];exact b
  ·rw[List.getElem?_append_right (by simp;omega),show(j+1)*3+2-_=j*3+2 from by simp;omega];exact d
theorem If:∀(l:List (ByteArray×Int)) (j:Nat) (x:ByteArray×Int),l[j]?=some x->(HV l)[j*2]?=some (.string x.1)/\(HV l)[j*2+1]?=some (.int .i64 x.2)
 |[],j,x,h=>by simp at h
 |y::l,0,x,h=>by
  have:y=x:=by simpa using h
  subst this;exact⟨rfl,rfl⟩
 |y::l,j+1,x,h=>by
  obtain⟨a,b⟩:=If l j x (by simpa using h);have e:HV (y::l)=[.string y.1,.int .i64 y.2]++HV l:=rfl;rw[e];refine⟨?_,?_⟩
  ·rw[List.getElem?_append_right (by simp;omega),show(j+1)*2-_=j*2 from by simp;omega];exact a
  ·rw[List.getElem?_append_right (by simp;omega),show(j+1)*2+1-_=j*2+1 from by simp;omega];exact b
theorem J2:∀(l:List (ByteArray×Int)) (nm:ByteArray) (i j:Nat),HY l nm i=some j->i<=j/\j<i+l.length
 |[],nm,i,j,h=>by simp[HY]at h
 |b::l,nm,i,j,h=>by
  unfold HY at h;split at h
  ·injection h with h;subst h;simp
  ·have:=J2 l nm (i+1) j h
   simp only[List.length_cons];omega
theorem Mz{w w1:World}{B p b f bm a:Nat}{code:List be}{labels:List (ByteArray×Int)}{lines:List Int}{i:List (Int×Int×ByteArray)}{vb vn vw:Value}(v:Int)
 (q:w.heap[p]?=some (.cells #[.slice (some (b,0)) code.length f,vb,vn,.map (some bm),vw] 296 (0,0))) (t:B<=p) (k:w.ownsRow B 184 7 (.slice (some (b,0)) code.length f) code.length (b4 code))
 (hb:w.ownsRow B 301 2 vb labels.length (HV labels)) (A:w.ownsRow B 3 1 vn lines.length (Ig lines)) (E:w.ownsRow B 300 3 vw i.length (HP i))
 (x:B<=bm) (m:w.heap[bm]?=some (.map (HM labels) labels.length)) (c:Below w.heap.size w w1) (u:a<code.length):
 HQ (w1.setCell (b,a*7+4) (.int .u64 v)) B p p ⟨Hl code a v,labels,lines,i⟩/\Below B w (w1.setCell (b,a*7+4) (.int .u64 v))/\
  (w1.setCell (b,a*7+4) (.int .u64 v)).cell? (p,4)=some vw:=by
 have d:=H' k c;have j:=H' hb c;have o:=H' A c;have s:=H' E c;have D:=(Array.getElem?_eq_some_iff.1 q).1;have r:w1.heap[p]?=some (.cells #[.slice (some (b,0)) code.length f,vb,vn,.map (some bm),vw] 296 (0,0)):=by rw[c.block p D];exact q
 have n:w1.heap[bm]?=some (.map (HM labels) labels.length):=by rw[c.block bm (Array.getElem?_eq_some_iff.1 m).1];exact m
 have C:p≠b:=fun e=>by
  have:=tw d r (by decide);exact this (by rw[e];rfl)
 have z:bm≠b:=fun e=>by
  have:=Jb d n;exact this (by rw[e];rfl)
 have g:(w1.setCell (b,a*7+4) (.int .u64 v)).heap[p]?=some (.cells #[.slice (some (b,0)) code.length f,vb,vn,.map (some bm),vw] 296 (0,0)):=by
  rw[HL (by simpa using C)];exact r
 have l:(w1.setCell (b,a*7+4) (.int .u64 v)).ownsRow B 184 7 (.slice (some (b,0)) (Hl code a v).length f) (Hl code a v).length (b4 (Hl code a v)):=by
  rw[J1,<-JJ code a v u];exact KB d (by rw[mu];omega) _
 refine⟨⟨_,vb,vn,vw,bm,by rw[g,J1],t,l,tw l g (by decide),?_,?_,?_,x,?_⟩,?_,sb g⟩
 ·exact ownsRow_setCell_other j (by exact(H5 j d (by decide)).elim (fun h=>by rw[h];simp) id) _
 ·exact ownsRow_setCell_other o (by exact(H5 o d (by decide)).elim (fun h=>by rw[h];simp) id) _
 ·exact ownsRow_setCell_other s (by exact(H5 s d (by decide)).elim (fun h=>by rw[h];simp) id) _
 ·rw[HL (by simpa using z)];exact n
 ·have y:=k.lt b rfl
  exact(c.mono (by omega)).setCell (by simpa using y.1) _
theorem JC{W:World}{o:Obj}{n:Nat}(h:n=W.heap.size):(W.alloc o).heap[n]?=some o:=by subst h;exact hU
theorem LN(s:ByteArray)(kG:s.size<=65536)(m:Int)(w:World)(f:w.cell? (1,0)=some (.int .i64 m)):
 Calls prog 96 #[.string s] w (M2 (Iu s) w):=by
 have ih:= @run_makeMap prog;have hm:1<w.heap.size:=World.block_lt_of_cell? w _ f;obtain⟨H,cC⟩:∃H:World,H=(w.alloc (.map #[] 0)).alloc (.cells #[.slice none 0 0,.slice none 0 0,.slice none 0 0,.map (some w.heap.size),.slice none 0 0] 296):=⟨_,rfl⟩;have g5:H.cell? (1,0)=some (.int .i64 m):=by rw[cC];rw[World.cell?_alloc_past _ _ _ (by simp;omega),World.cell?_alloc_past _ _ _ hm];exact f
 have e':=Z (JA s MR m H (by omega) g5 (by decide));have V:=Z cC;clear f g5 cC;go_in
 go_wp2_with fail
 rw[<-V];refine e'.mono ?_;rintro e cl ⟨rfl,av⟩;obtain⟨ls,a2⟩:=mn (Is s);have fL:Lib.countB s MR+1=ls.length:=by rw[a2];exact(Jy s).symm
 have hlen:ls.length<=65537:=by rw[a2];have:=KV s;omega
 have io:Hid (∀x∈ls,x.size<=65536):=by
  intro x Q;rw[a2]at Q;have:=JI MR _ s x Q;omega
 have ch:Hid (Iu s=IK ls):=by show _=_;rw[a2];rfl
 have ip:H.heap.size=w.heap.size+2:=by rw[V];simp
 have dN:Im cl H.heap.size ls:=by
  refine⟨_,by rw[av];exact hU,fun j x cS=> ?_⟩;rw[a2]at cS;simpa[Is]using cS
 have fO:Below w.heap.size w H:=by rw[V];exact((Below.refl _ _).alloc (Nat.le_refl _) _).alloc (by simp) _
 have fT:Below w.heap.size w cl:=by rw[av];exact fO.alloc (by omega) _
 have dC:HQ cl w.heap.size (w.heap.size+1) (w.heap.size+1) IQ:=by
  refine⟨.slice none 0 0,.slice none 0 0,.slice none 0 0,.slice none 0 0,w.heap.size,?_,by omega,World.ownsRow_nil _ _ _ _,by simp[Value.ownBlock],World.ownsRow_nil _ _ _ _,World.ownsRow_nil _ _ _ _,World.ownsRow_nil _ _ _ _,Nat.le_refl _,?_⟩
  ·rw[av,H7 (by omega),V,show w.heap.size+1=(w.alloc (.map #[] 0)).heap.size from by simp]
   exact hU
  ·rw[av,H7 (by omega),V,H7 (by simp)]
   exact hU
 rw[fL];obtain⟨g,g1⟩:=mn H.heap.size;rw[<-g1]at dN⊢;obtain⟨p,d⟩:=mn (w.heap.size+1);rw[<-d]at dC;obtain⟨N,cA⟩:=mn ls.length;rw[<-cA]at hlen⊢;have c1:=Z cA;have eW:=Z dN;have eL:=Z dC;have et:=Z fT;have kx:w.heap.size<=p:=by omega
 have eG:=Z d;clear av a2 fL ip dN fO fT dC g1 V e' cA d ih;try rw[<-eG]
 go_wp2
 try rw[<-eG]
 go_loopw [28] (fun jG wr=>∃(k:Nat) (st:w3),k<=N/\jG=.int .i64 k/\HQ wr w.heap.size p p st/\Hid (Lg st)/\st.code.length<=k/\st.labels.length<=k/\st.lines.length<=k/\st.bu.length<=3*k/\Below w.heap.size w wr/\Im wr g ls/\Hid (Il (ls.drop k) k st=Il ls 0 IQ)) (fun s _=>N-(intOf s).toNat)
 case atStart=>exact⟨0,IQ,by omega,rfl,eL,L9,by simp[IQ],by simp[IQ],by simp[IQ],by simp[IQ],et,eW,rfl⟩
 case round=>
  obtain⟨k,st,kv,rfl,c9,c2,k0,hE,k4,hF,hb,ca,c0⟩:=hrel;by_cases kw:k<N
  ·have bi:ls[k]?=some (B2 ls k):=by
    unfold B2;rw[List.getD_eq_getElem?_getD,List.getElem?_eq_getElem (by rw[<-c1];omega)];rfl
   have gc:=io.out (B2 ls k) (List.mem_of_getElem? bi);have hh:wr.cell? (g,k)=some (.string (B2 ls k)):=ca.cell bi;have D:Hid (ls.drop k=B2 ls k::ls.drop (k+1)):=by
    show _=_
    rw[List.drop_eq_getElem_cons (by rw[<-c1];omega)]
    congr 1
    rw[List.getElem?_eq_getElem (by rw[<-c1];omega)]at bi;exact Option.some.inj bi
   obtain⟨y,gd⟩:=mn (B2 ls k);rw[<-gd]at hh gc D;have bZ:=Z (L6 y gc k w.heap.size p st wr c9 (by have:=hb.size;omega) (by omega) (by omega) (by omega) (by omega));have bx:=Z hb;have gP:=Z ca;clear bi gd c9 hb ca;rcases P:J0 st y k with tt|en
   ·have cb:Hid (Calls prog 144 #[(p,0),.string y,.int .i64 k] wr (HX (.error tt) w.heap.size p k wr)):=by
     have h:=bZ.out;rw[P]at h;exact h
    have E:Hid (Iu s=.error (tt,(k:Int))):=by
     show _=_
     rw[ch];unfold IK;rw[<-c0,D,Il,P]
    clear P bZ;go_wp2_with (go_at_call 144;refine cb.mono ?_;rintro e w' ⟨v,rfl,⟨jK,inner,rfl,hu,hT,it⟩,hw⟩)
    go_ret3;rw[E];exact⟨_,_,rfl,⟨_,_,rfl,hu,hT,it⟩,fun _=>rfl,bx.trans hw⟩
   ·have cb:Hid (Calls prog 144 #[(p,0),.string y,.int .i64 k] wr (HX (.ok en) w.heap.size p k wr)):=by
     have h:=bZ.out;rw[P]at h;exact h
    have gr:Hid (Il (ls.drop (k+1)) ((k:Int)+1) en=Il ls 0 IQ):=by
     show _=_;rw[<-c0,D,Il,P]
    have am:=Z (L7 c2 P);clear P bZ;go_wp2_with (go_at_call 144;refine cb.mono ?_;rintro e w' ⟨rfl,ii,hv,i9⟩)
    go_roundw
    case rel=>exact⟨k+1,en,by omega,by go_num,ii,am.1,by have:=am.2.code;omega,by have:=am.2.labels;omega,by have:=am.2.lines;omega,by have:=am.2.bu;omega,bx.trans hv,gP.keep i9,by show _=_;rw[<-gr];congr 1⟩
    case measure=>simp[intOf];omega
  ·have eA:Hid (Il ls 0 IQ=.ok st):=by
    show _=_
    rw[<-c0,List.drop_eq_nil_of_le (by rw[<-c1];omega)];rfl
   have eS:=Z c9;have bx:=Z hb;have jS:=hb.size;clear c9 hb ca c0 eL eW et;obtain⟨vl,vb,vn,vw,bm,d,F,q,C,l,u,n,G,f⟩:=eS.parts;obtain⟨cm,ap,rfl⟩:=H2 n;have ge:wr.cell? (p,4)=some (.slice cm st.bu.length ap):=sb d;clear d F q C l u G f;go_wp2
   obtain⟨J,dr⟩:=mn st.bu.length;rw[<-dr]at ge n hF⊢;have U:=Z dr;clear dr n;go_loopw [46] (fun jH S=>∃(j:Nat) (code:List be),j<=J/\jH=.int .i64 j/\HQ S w.heap.size p p {st with code:=code}/\S.cell? (p,4)=some (.slice cm J ap)/\Hid (code.length=st.code.length)/\Below w.heap.size w S/\Hid (IJ st.labels (st.bu.drop j) code=IJ st.labels st.bu st.code)) (fun s _=>J-(intOf s).toNat)
   case atStart=>exact⟨0,st.code,by omega,rfl,eS,ge,rfl,bx,rfl⟩
   case round=>
    obtain⟨j,code,cS,rfl,a3,g7,ey,a0,c3⟩:=hrel;by_cases cW:j<J
    ·obtain⟨vl,vb,vn,vw,bm,d,F,q,C,l,u,n,G,f⟩:=a3.parts
     have hi:vw=.slice cm J ap:=by
      have:=sb (i:=4) d;rw[g7]at this;exact(Option.some.inj this).symm
     subst hi;have Q:st.bu[j]?=some (st.bu[j]'(by rw[<-U];exact cW)):=List.getElem?_eq_getElem _;obtain⟨x,e4⟩:∃x,x=st.bu[j]'(by rw[<-U];exact cW):=⟨_,rfl⟩;rw[<-e4]at Q;have g9:x∈st.bu:=List.mem_of_getElem? Q;have iC:=c2.want x g9;obtain⟨X,jM,i5⟩:=IS n (by simp only[<-U.out];omega);injection i5 with i6 i7 i8
     subst i6;clear i7 i8;obtain⟨k1,k2,k3⟩:=I6 st.bu j x Q;have a4:wr.ownsRow w.heap.size 300 3 (.slice (some (X,0)) J ap) J (HP st.bu):=(by simpa only[<-U.out]using n);have cq:wr.cell? ⟨X,j*3,none⟩=some (.int .i64 x.1):=Ih a4 k1;have fk:wr.cell? ⟨X,j*3+1,none⟩=some (.int .i64 x.2.1):=Ih a4 k2;have cs:wr.cell? ⟨X,j*3+2,none⟩=some (.string x.2.2):=Ih a4 k3;have kd:X<wr.heap.size:=(a4.lt X rfl).2;have c7:p<wr.heap.size:=(Array.getElem?_eq_some_iff.1 d).1;have R:wr.cell? (p,0)=some vl:=sb d;have a9:wr.cell? (p,1)=some vb:=sb d;have je:wr.cell? (p,3)=some (.map (some bm)):=sb d;have hB:bm<wr.heap.size:=(Array.getElem?_eq_some_iff.1 f).1;have hS:J<=ap:=(by obtain⟨_,_,h,_⟩:=IE a4;exact h);have O:∀nq,(Instr.lookup 293 (.map (some bm)) (.string x.2.2) true).run prog ((wr.alloc (.cells #[.int .i64 x.1,.int .i64 x.2.1,.string x.2.2] 300)).drewN nq)=.ok (JY (HY st.labels x.2.2 0)) ((wr.alloc (.cells #[.int .i64 x.1,.int .i64 x.2.1,.string x.2.2] 300)).drewN nq):=fun nq=>
      I0 _ bm st.labels st.labels.length _ (by show(wr.alloc _).heap[bm]?=_;rw[H7 hB];exact f)
     have D:Hid (st.bu.drop j=x::st.bu.drop (j+1)):=by
      show _=_
      rw[List.drop_eq_getElem_cons (by rw[<-U];exact cW),e4]
     have gG:=Z d;have K:=Z q;have jJ:=Z C;have T:=Z l;have gF:=Z u;have gW:=Z n;have gt:=Z f;have ad:=Z a0;have eI:=Z a3;have hn:=a0.size;clear d q C l u n f a0 a3 k1 k2 k3 Q e4 g9 a4;rcases a1:HY st.labels x.2.2 0 with _|i
     ·rw[a1]at O
      have E:Hid (Iu s=.error (false,0)):=by
       show _=_
       rw[ch];unfold IK;rw[eA];have e:IJ st.labels st.bu st.code=none:=(by rw[<-c3,D,IJ,a1]);dsimp only;unfold ID;rw[e]
      clear a1;unfold JY at O;go_wp2
      go_quiet (fail)
      clear O;go_wp2_with (go_at_call 142;refine(sz _ _ _ _).mono ?_;rintro e w' ⟨rfl,rfl⟩)
      go_ret3;rw[E];exact⟨_,_,rfl,⟨_,_,rfl,by omega,JC (by simp),(fun h=>by cases h)⟩,(fun h=>by cases h),((below_drewN (ad.alloc (by omega) _) _).alloc (by simp;omega) _)⟩
     ·rw[a1]at O
      unfold JY at O;have ku:=J2 _ _ _ _ a1;obtain⟨A,I,rfl⟩:=IS T (by simp only;omega);have B:st.labels[i]?=some (st.labels[i]'(by omega)):=List.getElem?_eq_getElem _;obtain⟨y,a5⟩:=mn (st.labels[i]'(by omega));rw[<-a5]at B;have iX:=c2.Mq y (List.mem_of_getElem? B);have fn:wr.cell? (A,i*2+1)=some (.int .i64 y.2):=Ih T (If st.labels i y B).2;have g2:A<wr.heap.size:=(T.lt A rfl).2;obtain⟨a,cF⟩:=Int.eq_ofNat_of_zero_le iC.1;have cL:a<code.length:=(by have:=ey.out;omega);obtain⟨M,fr,rfl⟩:=IS K (by simp only;omega);have fM:code[a]?=some (code[a]'cL):=List.getElem?_eq_getElem _;have fz:wr.cell? (M,a*7+4)=some (.int .u64 (code[a]'cL).v):=Ih K (Kl code a _ fM);have fK:wr.frozen? (M,a*7+4)=false:=LM K _;have g3:M<wr.heap.size:=(K.lt M rfl).2;have gs:Hid (L8 st.labels i=y.2):=(by show _=_;unfold L8;rw[B];rfl);have gf:=Z cF;rw[cF]at cq O;have kh:(i:Int)<(st.labels.length:Int):=(by omega);have kt:(a:Int)<(code.length:Int):=(by omega);clear B a5 fM cF;go_wp2
      go_quiet (fail)
      clear O;have kN:0<=y.2:=iX.1;have kO:y.2<=18446744073709551615:=(by omega);obtain⟨W,Y⟩:=nm ((wr.alloc (.cells #[.int .i64 (a:Int),.int .i64 x.2.1,.string x.2.2] 300)).drewN nq);have ab:∀b o,b<wr.heap.size->W.cell? ⟨b,o,none⟩=wr.cell? ⟨b,o,none⟩:=by
       intro b o hb;rw[<-Y];exact World.cell?_alloc_past _ _ _ hb
      have es:∀b o,b<wr.heap.size->W.frozen? ⟨b,o,none⟩=wr.frozen? ⟨b,o,none⟩:=by
       intro b o hb;rw[<-Y];exact World.frozen?_alloc_past _ _ _ hb
      have jf:=(ab p 0 c7).trans R;have jp:=(ab p 1 c7).trans a9;have jE:=(ab A (i*2+1) g2).trans fn;have lb:=(ab M (a*7+4) g3).trans fz;have l1:=(es M (a*7+4) g3).trans fK;have lc:W.cell? ⟨wr.heap.size,0,none⟩=some (.int .i64 a):=by
       rw[<-Y];exact sb (c:=#[.int .i64 (a:Int),.int .i64 x.2.1,.string x.2.2]) (t:=300) hU
      have ex:Hid (Below wr.heap.size wr W):=(by rw[<-Y];exact below_drewN ((Below.refl _ _).alloc (Nat.le_refl _) _) _);have k5:M<W.heap.size:=(by have:=ex.size;omega);rw[Y];clear Y ab es R a9 je cq fk cs fn fz fK;go_wp2
      go_still_tail 17,(by kernel_rfl)
      change wpList _ _ _ _ _ W.drew;have fd:=Mz (a:=a) y.2 gG F K T gF gW G gt ex cL;have ci:=Z fd;clear fd jf jp jE;go_wp2
      go_roundw
      case rel=>exact⟨j+1,Hl code a y.2,by omega,by go_num,ci.1,ci.2.2,by show _=_;rw[J1];exact ey,ad.trans (ci.2.1).drew,by
       show _=_
       rw[<-c3,D,IJ,a1,gf,<-gs];rfl⟩
      case measure=>simp[intOf];omega
    ·have fb:Hid (IJ st.labels st.bu st.code=some code):=by
      show _=_;rw[<-c3,List.drop_eq_nil_of_le (by rw[<-U];omega)];rfl
     have eI:=Z a3;have ad:=Z a0;have hn:=a0.size;obtain⟨vl,vb,vn,vw,bm,d,F,q,C,l,u,n,G,f⟩:=a3.parts;obtain⟨gY,fr,rfl⟩:=H2 q;obtain⟨c4,I,rfl⟩:=H2 l;have R:wr.cell? (p,0)=some (.slice gY code.length fr):=sb d;have a9:wr.cell? (p,1)=some (.slice c4 st.labels.length I):=sb d;clear a3 a0 g7 c3 d F q C l u n G f;obtain⟨bv,di⟩:=mn code.length;rw[<-di]at R;have al:=Z di;clear di;have ce:Hid (Iu s=match ID st with|some r=> .ok r|none=> .error (false,0)):=by
      show _=_
      rw[ch];unfold IK;rw[eA];try rfl
     by_cases g0:2048<bv
     ·have E:Hid (Iu s=.error (false,0)):=by
       show _=_
       rw[ce];unfold ID;rw[fb];dsimp only;rw[if_pos (by rw[<-al.out];exact g0)]
      go_wp2_with (go_at_call 142;refine(sz _ _ _ _).mono ?_;rintro e w' ⟨rfl,rfl⟩)
      go_ret3;rw[E];exact⟨_,_,rfl,⟨_,_,rfl,by omega,JC (by simp),(fun h=>by cases h)⟩,(fun h=>by cases h),(ad.alloc (by omega) _)⟩
     ·have eC:Hid (ID st=if st.labels.any (fun b=>b.2==(code.length:Int))then none else some (code,st.labels)):=by
       show _=_
       unfold ID;rw[fb];dsimp only;rw[if_neg (by rw[<-al.out];exact g0)]
      go_wp2
      obtain⟨z,dp⟩:=mn st.labels.length;rw[<-dp]at a9 hE⊢;have L:=Z dp;clear dp;go_loopw [97] (fun jI S=>∃(i:Nat),i<=z/\jI=.int .i64 i/\HQ S w.heap.size p p {st with code:=code}/\S.cell? (p,1)=some (.slice c4 z I)/\Below w.heap.size w S/\Hid (st.labels.any (fun b=>b.2==(code.length:Int))=(st.labels.drop i).any (fun b=>b.2==(code.length:Int)))) (fun s _=>z-(intOf s).toNat)
      case atStart=>exact⟨0,by omega,rfl,eI,a9,ad,rfl⟩
      case round=>
       obtain⟨i,kf,rfl,bd,c8,aP,bw⟩:=hrel;clear R a9;by_cases cQ:i<z
       ·obtain⟨vl,vb,vn,vw,bm,d,F,q,C,l,u,n,G,f⟩:=bd.parts
        have c5:vb=.slice c4 z I:=by
         have:=sb (i:=1) d;rw[c8]at this;exact(Option.some.inj this).symm
        subst c5;obtain⟨hd,he,rfl⟩:=H2 q;obtain⟨A,jL,i1⟩:=IS l (by simp only[<-L.out];omega);injection i1 with i2 i3 i4
        subst i2;clear i3 i4;have B:st.labels[i]?=some (st.labels[i]'(by rw[<-L];exact cQ)):=List.getElem?_eq_getElem _;obtain⟨y,a5⟩:∃y,y=st.labels[i]'(by rw[<-L];exact cQ):=⟨_,rfl⟩;rw[<-a5]at B;have bb:wr.ownsRow w.heap.size 301 2 (.slice (some (A,0)) z I) z (HV st.labels):=(by simpa only[<-L.out]using l);have cq:wr.cell? (A,i*2)=some (.string y.1):=Ih bb (If st.labels i y B).1;have fk:wr.cell? (A,i*2+1)=some (.int .i64 y.2):=Ih bb (If st.labels i y B).2;have g2:A<wr.heap.size:=(bb.lt A rfl).2;have hS:z<=I:=(by obtain⟨_,_,h,_⟩:=IE bb;exact h);have g8:st.lines.length=z:=(by rw[L];exact c2.same.symm);obtain⟨c6,hf,rfl⟩:=IS u (by simp only;omega);have g6:(Ig st.lines)[i]?=some (.int .i64 (st.lines[i]'(by omega))):=by
         unfold Ig;rw[List.getElem?_map,List.getElem?_eq_getElem (by omega)];rfl
        have cs:wr.cell? (c6,i)=some (.int .i64 (st.lines[i]'(by omega))):=Ih u g6;obtain⟨kT,g4⟩:=mn (st.lines[i]'(by omega));rw[<-g4]at cs;have kb:c6<wr.heap.size:=(u.lt c6 rfl).2;have c7:p<wr.heap.size:=(Array.getElem?_eq_some_iff.1 d).1;have R:wr.cell? (p,0)=some (.slice hd bv he):=(by rw[al];exact sb d);have l0:wr.cell? (p,2)=some (.slice (some (c6,0)) z hf):=(by rw[<-g8];exact sb d);have D:Hid (st.labels.drop i=y::st.labels.drop (i+1)):=by
         show _=_
         rw[List.drop_eq_getElem_cons (by rw[<-L];exact cQ),a5]
        have gO:=Z bd;have bX:=Z aP;have gH:=Z c8;have jR:=aP.size;clear d F q C l u n G f B a5 bb g6 g4 g8 bd aP c8;by_cases heq:y.2=(bv:Int)
        ·have i0:(y.2==(bv:Int))=true:=by rw[beq_iff_eq];exact heq
         have E:Hid (Iu s=.error (false,0)):=by
          show _=_
          have ct:st.labels.any (fun b=>b.2==(code.length:Int))=true:=by
           rw[bw,D,List.any_cons];have:(y.2==(code.length:Int))=true:=(by rw[beq_iff_eq,heq,al]);rw[this];rfl
          rw[ce,eC,ct];rfl
         clear heq;go_wp2
         go_quiet (fail)
         go_wp2_with (go_at_call 142;refine(sz _ _ _ _).mono ?_;rintro e w' ⟨rfl,rfl⟩)
         go_ret3;rw[E];exact⟨_,_,rfl,⟨_,_,rfl,by omega,JC (by simp),(fun h=>by cases h)⟩,(fun h=>by cases h),((below_drewN (bX.alloc (by omega) _) _).alloc (by simp;omega) _)⟩
        ·have i0:(y.2==(bv:Int))=false:=by rw[beq_eq_false_iff_ne];exact heq
         have gk:Hid (st.labels.any (fun b=>b.2==(code.length:Int))=(st.labels.drop (i+1)).any (fun b=>b.2==(code.length:Int))):=by
          show _=_
          rw[bw,D,List.any_cons];have:(y.2==(code.length:Int))=false:=(by rw[beq_eq_false_iff_ne,<-al];exact heq);rw[this];rfl
         clear heq;have cd:Hid (∀nq,HQ ((wr.alloc (.cells #[.string y.1,.int .i64 y.2] 301)).drewN nq) w.heap.size p p {st with code:=code}/\((wr.alloc (.cells #[.string y.1,.int .i64 y.2] 301)).drewN nq).cell? (p,1)=some (.slice (some (A,0)) z I)/\Below w.heap.size w ((wr.alloc (.cells #[.string y.1,.int .i64 y.2] 301)).drewN nq)):=by
          intro nq;refine⟨gO.below (below_drewN ((Below.refl _ _).alloc (Nat.le_refl _) _) _),?_,below_drewN (bX.alloc (by omega) _) _⟩;show(wr.alloc _).cell? _=_
          rw[World.cell?_alloc_past _ _ _ c7];exact gH
         go_wp2
         go_quiet (fail)
         go_wp2
         go_roundw
         case rel=>exact⟨i+1,by omega,by go_num,(cd _).1,(cd _).2.1,(cd _).2.2,gk⟩
         case measure=>simp[intOf];omega
       ·have E:Hid (Iu s=.ok (code,st.labels)):=by
         show _=_
         have ct:st.labels.any (fun b=>b.2==(code.length:Int))=false:=by
          rw[bw,List.drop_eq_nil_of_le (by rw[<-L];omega)];rfl
         rw[ce,eC,ct];rfl
        obtain⟨vl,vb,vn,vw,bm,d,F,q,C,l,u,n,G,f⟩:=bd.parts;have R:wr.cell? (p,0)=some vl:=sb d;have c5:vb=.slice c4 z I:=by
         have:=sb (i:=1) d;rw[c8]at this;exact(Option.some.inj this).symm
        have K:=Z q;have T:=Z l;have bX:=Z aP;have go:=Z c5;clear bd d F q C l u n G f aP c5 bw;go_wp2
        go_quiet (fail)
        go_wp2
        go_ret3;rw[E];exact⟨_,_,rfl,K,by rw[<-go];exact T,below_drewN bX _⟩
theorem J3{B g i:Nat}(h:Below B w w')(a:g<B):w'.cell? (g,i)=w.cell? (g,i):=by
 unfold World.cell?;simp only[h.block g a]
def Jk(nm:ByteArray):List (ByteArray×Int)->Int×Bool
 |[]=>(0,false)
 |x::l=>if x.1=nm then(x.2,true)else Jk nm l
def J4(r:Int×Bool)(w:World)(e:Ending)(w':World):Prop:=e=.returned (.tuple #[.int .i64 r.1,.bool r.2])/\Below w.heap.size w w'
theorem J4.mk{r:Int×Bool}{x:Int}{b:Bool}(h:r=(x,b))(hb:Below w.heap.size w w'):J4 r w (.returned (.tuple #[x,.bool b])) w':=⟨by rw[h],hb⟩
theorem MA(ls:List (ByteArray×Int))(nm:ByteArray)(g c:Nat)(D:ls.length<=1000000)(B:ls.length<=c)(w:World)(t:g<w.heap.size)
 (r:∀i u,(HV ls)[i]?=some u->w.cell? ⟨g,i,none⟩=some u):
 Calls prog 97 #[.slice (some (g,0)) ls.length c,.string nm] w (J4 (Jk nm ls) w):=by
 obtain⟨o,f⟩:=mn (Jk nm ls);have z:Hid (Jk nm (ls.drop 0)=o):=f.symm;have l:=Z r;obtain⟨N,d⟩:=mn ls.length;rw[<-f,<-d];rw[<-d]at D B;have n:=Z d;clear r d f;go_wp2
 go_loopw [10] (fun s E=>∃k:Nat,k<=N/\s=.int .i64 k/\Below w.heap.size w E/\Hid (Jk nm (ls.drop k)=o)) (fun s _=>N-(intOf s).toNat)
 case atStart=>exact⟨0,by omega,rfl,Below.refl _ _,z⟩
 case round=>
  obtain⟨k,F,rfl,a,e⟩:=hrel;by_cases C:k<N
  ·have v:k<ls.length:=by rw[<-n];exact C
   have h:ls[k]?=some ls[k]:=List.getElem?_eq_getElem v;have j:ls.drop k=ls[k]::ls.drop (k+1):=List.drop_eq_getElem_cons v;obtain⟨X,p⟩:=mn (ls[k]);rw[<-p]at h j;obtain⟨f0,f1⟩:=If ls k X h;have a0:=(J3 a t).trans (l _ _ f0);have a1:=(J3 a t).trans (l _ _ f1);have b:=Z a;have q:=a.size;have G:(k:Int)<(N:Int):=(by omega);have m:Hid (Jk nm (ls.drop k)=if X.1=nm then(X.2,true)else Jk nm (ls.drop (k+1))):=(by show _=_;rw[j];rfl);clear p h f0 f1 a j;cases x:(X.1.toList==nm.toList)
   ·have A:=Z (Kj x)
    go_wp2
    go_roundw
    case rel=>exact⟨k+1,by omega,by go_num,b.alloc q _,by show _=_;rw[<-e,m,if_neg A.out]⟩
    case measure=>simp[intOf];omega
   ·have y:=Z (toList_eq x)
    go_wp2
    go_ret2;exact J4.mk (by rw[<-e,m,if_pos y.out]) (b.alloc q _)
  ·obtain rfl:k=N:=by omega
   have b:=Z a;clear a;go_wp2
   go_ret2;exact J4.mk (by rw[<-e,n,List.drop_length];rfl) b
def KW(c:UInt8):List (List UInt8)->List (List UInt8)
 |[]=>[[c]]
 |x::xs=>(c::x)::xs
def IM:List UInt8->List (List UInt8)
 |[]=>[[]]
 |c::l=>if c=10 then []::IM l else KW c (IM l)
theorem Ma(c:UInt8)(l:List UInt8):Lib.index (c::l) [10]=if c=10 then 0 else if Lib.index l [10]=-1 then-1 else Lib.index l [10]+1:=by
 by_cases h:c=10
 ·subst h;simp[Lib.index]
 ·have a:¬(10:UInt8)=c:=fun e=>h e.symm
  simp[Lib.index,h,a,List.isPrefixOf]
theorem KX:∀l:List UInt8,Lib.splitK [10] 0 (Lib.count l [10]) l=IM l
 |[]=>rfl
 |c::l=>by
  have ih:=KX l;have a:=Ma c l;by_cases h:c=10
  ·rw[if_pos h]at a
   rw[Lib.count_hit (i:=0) (by simp) a,Nat.add_comm 1,Lib.splitK,a,IM,if_pos h];simpa using ih
  ·rw[if_neg h]at a
   rw[IM,if_neg h,<-ih];have j:=Lib.index_ge l [10];by_cases b:Lib.index l [10]=-1
   ·rw[if_pos b]at a
    rw[Lib.count_miss a,Lib.count_miss b];rfl
   ·rw[if_neg b]at a
    obtain⟨i,e⟩:∃i:Nat,Lib.index l [10]=i:=⟨(Lib.index l [10]).toNat,by omega⟩;have d:Lib.index (c::l) [10]=((i+1:Nat):Int):=(by rw[a,e];simp);have f:¬(Lib.index (c::l) [10]==-1)=true:=(by rw[d,beq_iff_eq];omega);have g:¬(Lib.index l [10]==-1)=true:=(by rw[beq_iff_eq];exact b);rw[Lib.count_hit (by simp) d,Lib.count_hit (by simp) e,Nat.add_comm 1,Nat.add_comm 1,Lib.splitK,Lib.splitK,if_neg f,if_neg g,d,e];simp[KW]
def LO(l:List UInt8):ByteArray:=⟨l.toArray⟩
theorem MC(l:List ByteArray):(l.map (·.data.toList)).map LO=l:=by
 rw[List.map_map]
 conv=>rhs;rw[<-List.map_id l]
 exact List.map_congr_left (fun x _=>rfl)
theorem KY(s:ByteArray):Is s=(IM s.data.toList).map LO:=by
 rw[<-KX,<-MC (Is s)];unfold Is;rw[Lib.splitB_data];rfl
theorem LP(s t:ByteArray):Iu (s++t)=IK ((IM (s.data.toList++t.data.toList)).map LO):=by
 unfold Iu;rw[KY];simp
