import Derived.Laws.StructEq
import Derived.BigQuiet
import Derived.Deep.QuietTactic
import Derived.StillTailTactics
import Derived.Deep.AppendLies
import Derived.Deep.RegionLaw
import Derived.Deep.DeepCutAuto
import Derived.Test.YtmfnplmcfkkdpaaGreatDoorZAh
import Derived.Test.YtmfnplmcfkkdpaaGreatDoorZAi
set_option linter.all false
set_option maxRecDepth 100000
set_option maxHeartbeats 0
namespace Go.Proofs.YtmfnplmcfkkdpaaGreatDoor
open Go.RowKit Go.Proofs.Tryz
variable{w w':World}{B bx g p:Nat}{v:Value}
theorem IZ(t:ByteArray):∀(f i a:Nat),i+f<=t.size+1->(∀x∈hl t f i a,1<=x.size/\x.size<=t.size)/\(hl t f i a).length<=f
 |0,_,_,_=>by simp[hl]
 |f+1,i,a,h=>by
  obtain⟨d,e⟩:=IZ t f (i+1) a (by omega);obtain⟨c,j⟩:=IZ t f (i+1) (i+1) (by omega);unfold hl;split
  ·exact⟨d,by omega⟩
  ·split
   ·refine⟨fun x b=> ?_,by simp;omega⟩
    rcases List.mem_cons.1 b with rfl|b
    ·simp;omega
    ·exact c x b
   ·exact⟨c,by omega⟩
theorem LF(s:ByteArray):(I3 s).size<=s.size:=by
 unfold I3;split
 ·simp;omega
 ·exact Nat.le_refl _
theorem KT(s:ByteArray):(∀x∈H3 s,1<=x.size/\x.size<=s.size)/\(H3 s).length<=s.size+1:=by
 obtain⟨a,d⟩:=IZ (I3 s) ((I3 s).size+1) 0 0 (by omega);have c:=LF s;exact⟨fun x b=>⟨(a x b).1,Nat.le_trans (a x b).2 c⟩,by unfold H3;omega⟩
def Im(w:World)(g:Nat)(a:List ByteArray):Prop:=
 ∃cur:Array Value,w.heap[g]?=some (.cells cur 9 (0,0))/\∀(j:Nat) (x:ByteArray),a[j]?=some x->cur[j]?=some (.string x)
theorem Im.keep{a:List ByteArray}(h:Im w g a)(k:H9 w w'):Im w' g a:=by
 obtain⟨cur,b,c⟩:=h;exact⟨cur,k g cur 9 _ (Or.inl rfl) b,c⟩
theorem Im.cell{a:List ByteArray}(h:Im w g a){j:Nat}{x:ByteArray}(d:a[j]?=some x):w.cell? (g,j)=some (.string x):=by
 obtain⟨cur,b,c⟩:=h;rw[sb b];exact c j x d
theorem Im.lt{b:List ByteArray}(h:Im w g b):g<w.heap.size:=by
 obtain⟨cur,a,_⟩:=h;exact(Array.getElem?_eq_some_iff.1 a).1
theorem Im.Ju{a:List ByteArray}(h:w.ownsRow B 9 1 v a.length (a.map Value.string))(l:a≠[]):
 ∃g cap,v=.slice (some ⟨g,0,none⟩) a.length cap/\B<=g/\a.length<=cap/\cap<=maxLen/\Im w g a:=by
 rcases h.2 with⟨_,c⟩|⟨g,cap,cur,rfl,d,f,e,k,n,m⟩
 ·exact absurd (List.eq_nil_of_length_eq_zero c) l
 ·refine⟨g,cap,rfl,d,e,k,cur,f,fun j x i=> ?_⟩
  have b:(a.map Value.string)[j]?=some (.string x):=by simp[i]
  rw[<-m]at b;rw[List.getElem?_take]at b;split at b
  ·simpa using b
  ·cases b
theorem Ir(h:Below w.heap.size w w'):H9 w w':=by
 intro k c t f _ a;rw[h.block k (Array.getElem?_eq_some_iff.1 a).1];exact a
theorem H'{e:TypeId}{size:Nat}{n:Nat}{xs:List Value}(h:w.ownsRow B e size v n xs)(hb:Below w.heap.size w w'):w'.ownsRow B e size v n xs:=
 h.kept (row:=none) ⟨hb.os,hb.tape,hb.output,hb.size,fun k a _=>hb.block k a⟩ (by cases v.ownBlock<;>simp)
theorem HQ.below{st:w3}(h:HQ w B p bx st)(hb:Below w.heap.size w w'):HQ w' B p bx st:=by
 obtain⟨vl,vb,vn,vw,bm,b,c,f,j,d,i,k,e,a⟩:=h;exact⟨vl,vb,vn,vw,bm,by rw[hb.block p (Array.getElem?_eq_some_iff.1 b).1];exact b,c,H' f hb,j,H' d hb,H' i hb,H' k hb,e,
  by rw[hb.block bm (Array.getElem?_eq_some_iff.1 a).1];exact a⟩
theorem HQ.fresh{st:w3}(h:HQ w B p bx st)(k:Nat)(d:w.heap.size<=k):HQ w B p k st:=by
 obtain⟨vl,vb,vn,vw,bm,c,b,a,f,rest⟩:=h;refine⟨vl,vb,vn,vw,bm,c,b,a,fun e=> ?_,rest⟩;have:=(a.lt k e).2;omega
def HY:List (ByteArray×Int)->ByteArray->Nat->Option Nat
 |[],_,_=>none
 |b::l,nm,i=>if b.1=nm then some i else HY l nm (i+1)
def L2(x:(ByteArray×Int)×Nat):MapEntry:={key:=.string x.1.1,val:=.int .i64 x.2,born:=x.2}
theorem JX(a b:ByteArray):(a==b)=true↔a=b:=by
 rw[beq_toListBytes,beq_iff_eq,ByteArray.toList_eq,ByteArray.toList_eq];exact⟨fun h=>ByteArray.ext (Array.ext' h),fun h=>by rw[h]⟩
theorem I5(nm:ByteArray):∀(l:List (ByteArray×Int)) (i:Nat),Instr.findNow .string (.string nm) ((l.zipIdx i).map L2) i=some ((HY l nm i).map fun(j:Nat)=>(j,Value.int .i64 (j:Int)))
 |[],_=>rfl
 |b::l,i=>by
  have ih:=I5 nm l (i+1);simp only[List.zipIdx_cons,List.map_cons,Instr.findNow,L2,Instr.sameNow,HY];by_cases h:b.1=nm
  ·have a:(nm==b.1)=true:=(JX nm b.1).2 h.symm
   rw[a,if_pos h];rfl
  ·have a:(nm==b.1)=false:=by
    rw[Bool.eq_false_iff];intro e;exact h ((JX nm b.1).1 e).symm
   rw[a,if_neg h];exact ih
def JY:Option Nat->Value
 |some j=> .tuple #[.int .i64 j,.bool true]
 |none=> .tuple #[.int .i64 0,.bool false]
theorem I0(w:World)(bm:Nat)(l:List (ByteArray×Int))(n:Nat)(nm:ByteArray)(d:w.heap[bm]?=some (.map (HM l) n)):
 (Instr.lookup 176 (.map (some bm)) (.string nm) true).run prog w=.ok (JY (HY l nm 0)) w:=by
 have a:Instr.findNow .string (.string nm) (HM l).toList 0=some ((HY l nm 0).map fun(j:Nat)=>(j,Value.int .i64 (j:Int))):=I5 nm l 0;have c:∀b w,(Instr.checkKey b 10000 9 (.string nm)).run prog w=.ok () w:=fun b w=>by
  unfold Instr.checkKey;simp[run_underlying underlying9]
 have e:(zeroValue 3).run prog w=.ok (.int .i64 0) w:=by kernel_rfl
 unfold Instr.lookup Instr.findKey;simp only[go_sem,run_underlying underlying176,run_underlying underlying9,Sem.run_bind,Result.andThen_ok,getObj,Sem.run,d,c];simp only[Sem.run_pure,Result.andThen_ok,a];cases HY l nm 0<;>simp[JY,e,go_sem]
def HX(st:w3)(B p:Nat)(w:World)(e:Ending)(w':World):Prop:=e=.returned .nilIface/\HQ w' B p p st/\Below B w w'/\H9 w w'
def Ip(w:World)(bm:Nat)(a:Array MapEntry)(n:Nat):World:={w with heap:=w.heap.setIfInBounds bm (.map a n)}
theorem Ky(l:List (ByteArray×Int))(x:ByteArray×Int):(HM l).push ⟨.string x.1,.int .i64 l.length,l.length⟩=HM (l++[x]):=by
 unfold HM;simp[List.zipIdx_append]
theorem Ld(w:World)(bm:Nat)(l:List (ByteArray×Int))(x:ByteArray×Int)(c:w.heap[bm]?=some (.map (HM l) l.length))(a:HY l x.1 0=none):
 (Instr.mapUpdate 176 (.map (some bm)) (.string x.1) (.int .i64 l.length)).run prog w=.ok () (Ip w bm (HM (l++[x])) (l.length+1)):=by
 have a:Instr.findNow .string (.string x.1) (HM l).toList 0=some none:=by
  have:=I5 x.1 l 0;rw[a]at this;exact this
 have d:∀b w,(Instr.checkKey b 10000 9 (.string x.1)).run prog w=.ok () w:=fun b w=>by
  unfold Instr.checkKey;simp[run_underlying underlying9]
 unfold Instr.mapUpdate Instr.findKey;simp only[go_sem,run_underlying underlying176,run_underlying underlying9,Sem.run_bind,Result.andThen_ok,getObj,Sem.run,c,d];simp only[Sem.run_pure,Result.andThen_ok,a];simp[setObj,Sem.run,c,Ip,Ky]
theorem LG(s:ByteArray)(k:s.size<=65536)(line:Int)(B p:Nat)(st:w3)(w:World)(i:HQ w B p p st)(h:B<=w.heap.size)(l:H3 s=[]):
 Calls prog 71 #[(p,0),.string s,line] w (HX st B p w):=by
 have f:=Z i;have g:=Z l;go_in
 go_wp2_with fail
 refine(Io s k w).mono ?_;rintro e w1 ⟨v,rfl,d,b⟩;rw[g]at d;obtain⟨a,c,rfl⟩:=H2 d;have j:=Z (f.below b);simp only[List.length_nil];go_wp2
 go_ret;exact⟨rfl,j.out,b.mono h,Ir b⟩
section
variable{w w1:World}{B bm bx k n p:Nat}{v' vb vl vn vw:Value}
def Jv(w:World)(B p bx:Nat)(code:List be)(a labels:List (ByteArray×Int))(lines:List Int)(b:List (Int×Int×ByteArray)):Prop:=
 ∃vl vb vn vw bm,w.heap[p]?=some (.cells #[vl,vb,vn,.map (some bm),vw] 179 (0,0))/\B<=p/\
  w.ownsRow B 152 7 vl code.length (b4 code)/\vl.ownBlock≠some bx/\
  w.ownsRow B 184 2 vb labels.length (HV labels)/\
  w.ownsRow B 3 1 vn lines.length (Ig lines)/\
  w.ownsRow B 183 3 vw b.length (HP b)/\
  B<=bm/\w.heap[bm]?=some (.map (HM a) a.length)
theorem HQ.parts{st:w3}(h:HQ w B p bx st):Jv w B p bx st.code st.labels st.labels st.lines st.bu:=h
theorem Jv.whole{st:w3}(h:Jv w B p bx st.code st.labels st.labels st.lines st.bu):HQ w B p bx st:=h
theorem IA{a:Array MapEntry}(h:k≠bm):(Ip w bm a n).heap[k]?=w.heap[k]?:=by
 unfold Ip;simp only[Array.getElem?_setIfInBounds];rw[if_neg (Ne.symm h)]
theorem KA(w:World)(bm:Nat)(a:Array MapEntry)(n:Nat):w.grownBy (Ip w bm a n) (some bm):=
 ⟨rfl,rfl,rfl,by simp[Ip],fun k _ b=>IA (fun e=>b (by rw[e]))⟩
theorem I1{e:TypeId}{size:Nat}{v:Value}{xs:List Value}(h:w.ownsRow B e size v n xs){c:Array MapEntry}{t:Nat}(a:w.heap[k]?=some (.map c t)):v.ownBlock=none∨v.ownBlock≠some k:=Or.inr (Jb h a)
theorem Jv.put{code:List be}{a l:List (ByteArray×Int)}{lines:List Int}{i:List (Int×Int×ByteArray)}(x:ByteArray×Int)
 (g:w.heap[p]?=some (.cells #[vl,vb,vn,.map (some bm),vw] 179 (0,0))) (q:B<=p) (j:w.ownsRow B 152 7 vl code.length (b4 code)) (u:vl.ownBlock≠some bx)
 (hb:w.ownsRow B 184 2 vb l.length (HV l)) (m:w.ownsRow B 3 1 vn lines.length (Ig lines)) (o:w.ownsRow B 183 3 vw i.length (HP i))
 (r:B<=bm) (b:w.heap[bm]?=some (.map (HM a) a.length)):
 Jv (Ip w bm (HM (a++[x])) (a.length+1)) B p bx code (a++[x]) l lines i/\Below B w (Ip w bm (HM (a++[x])) (a.length+1))/\H9 w (Ip w bm (HM (a++[x])) (a.length+1)):=by
 have h:=KA w bm (HM (a++[x])) (a.length+1);have s:bm<w.heap.size:=(Array.getElem?_eq_some_iff.1 b).1;have v:p≠bm:=by
  intro e;subst e;rw[b]at g;injection g with g;cases g
 refine⟨⟨vl,vb,vn,vw,bm,?_,q,j.kept h (I1 j b),u,hb.kept h (I1 hb b),m.kept h (I1 m b),o.kept h (I1 o b),r,?_⟩,?_,?_⟩
 ·rw[IA v];exact g
 ·unfold Ip;simp[Array.getElem?_setIfInBounds,s]
 ·exact⟨rfl,rfl,rfl,by simp[Ip],fun k d=>IA (by omega)⟩
 ·intro k c t f _ d
  rw[IA (fun e=>by subst e;rw[b]at d;injection d with d;cases d)];exact d
theorem M0{code:List be}{f l:List (ByteArray×Int)}{lines:List Int}{g:List (Int×Int×ByteArray)}{y:ByteArray×Int}
 (a:w.heap[p]?=some (.cells #[vl,vb,vn,.map (some bm),vw] 179 (0,0))) (h:B<=p) (i:w.ownsRow B 152 7 vl code.length (b4 code)) (t:vl.ownBlock≠some bx)
 (hb:w.ownsRow B 184 2 vb l.length (HV l)) (m:w.ownsRow B 3 1 vn lines.length (Ig lines)) (q:w.ownsRow B 183 3 vw g.length (HP g))
 (r:B<=bm) (d:w.heap[bm]?=some (.map (HM f) f.length))
 (v:w1.ownsRow B 184 2 v' (l.length+1) (HV l++[.string y.1,.int .i64 y.2])) (b:w.grownBy w1 vb.ownBlock):
 Jv (w1.setCell (p,1) v') B p bx code f (l++[y]) lines g/\Below B w (w1.setCell (p,1) v')/\H9 w (w1.setCell (p,1) v'):=by
 have o:p<w.heap.size:=(Array.getElem?_eq_some_iff.1 a).1;have z:vb.ownBlock≠some p:=tw hb a (by decide);have c:w1.heap[p]?=some (.cells #[vl,vb,vn,.map (some bm),vw] 179 (0,0)):=by rw[b.block p o (Ne.symm z)];exact a
 have x:bm≠p:=by
  intro e;subst e;rw[d]at a;injection a with a;cases a
 refine⟨⟨vl,v',vn,vw,bm,HS c,h,H6 i b (H5 i hb (by decide)) c (by decide),t,?_,H6 m b (H5 m hb (by decide)) c (by decide),H6 q b (H5 q hb (by decide)) c (by decide),r,?_⟩,?_,?_⟩
 ·have:=JN (j:=1) (u:=v') v c (by decide)
  simpa[HV]using this
 ·rw[HL (by simpa using x),b.block bm (Array.getElem?_eq_some_iff.1 d).1 (Ne.symm (Jb hb d))];exact d
 ·exact II b (fun k s=>(hb.lt k s).1) h o
 ·exact IX a b (Je hb (by decide))
theorem Mv{code:List be}{g l:List (ByteArray×Int)}{lines:List Int}{h:List (Int×Int×ByteArray)}{y:Int}
 (a:w.heap[p]?=some (.cells #[vl,vb,vn,.map (some bm),vw] 179 (0,0))) (i:B<=p) (m:w.ownsRow B 152 7 vl code.length (b4 code)) (t:vl.ownBlock≠some bx)
 (hb:w.ownsRow B 184 2 vb l.length (HV l)) (c:w.ownsRow B 3 1 vn lines.length (Ig lines)) (q:w.ownsRow B 183 3 vw h.length (HP h))
 (r:B<=bm) (f:w.heap[bm]?=some (.map (HM g) g.length))
 (v:w1.ownsRow B 3 1 v' (lines.length+1) (Ig lines++[.int .i64 y])) (b:w.grownBy w1 vn.ownBlock):
 Jv (w1.setCell (p,2) v') B p bx code g l (lines++[y]) h/\Below B w (w1.setCell (p,2) v')/\H9 w (w1.setCell (p,2) v'):=by
 have o:p<w.heap.size:=(Array.getElem?_eq_some_iff.1 a).1;have z:vn.ownBlock≠some p:=tw c a (by decide);have d:w1.heap[p]?=some (.cells #[vl,vb,vn,.map (some bm),vw] 179 (0,0)):=by rw[b.block p o (Ne.symm z)];exact a
 have x:bm≠p:=by
  intro e;subst e;rw[f]at a;injection a with a;cases a
 refine⟨⟨vl,vb,v',vw,bm,HS d,i,H6 m b (H5 m c (by decide)) d (by decide),t,H6 hb b (H5 hb c (by decide)) d (by decide),?_,H6 q b (H5 q c (by decide)) d (by decide),r,?_⟩,?_,?_⟩
 ·have:=JN (j:=2) (u:=v') v d (by decide)
  simpa[Ig]using this
 ·rw[HL (by simpa using x),b.block bm (Array.getElem?_eq_some_iff.1 f).1 (Ne.symm (Jb c f))];exact f
 ·exact II b (fun k s=>(c.lt k s).1) i o
 ·exact IX a b (Je c (by decide))
theorem Lw{code:List be}{g l:List (ByteArray×Int)}{lines:List Int}{h:List (Int×Int×ByteArray)}{y:be}
 (a:w.heap[p]?=some (.cells #[vl,vb,vn,.map (some bm),vw] 179 (0,0))) (i:B<=p) (c:w.ownsRow B 152 7 vl code.length (b4 code)) (A:vl.ownBlock≠some bx)
 (hb:w.ownsRow B 184 2 vb l.length (HV l)) (m:w.ownsRow B 3 1 vn lines.length (Ig lines)) (q:w.ownsRow B 183 3 vw h.length (HP h))
 (r:B<=bm) (f:w.heap[bm]?=some (.map (HM g) g.length))
 (v:w1.ownsRow B 152 7 v' (code.length+1) (b4 code++(aD y).toList)) (b:w.grownBy w1 vl.ownBlock) (t:v'.ownBlock≠some bx):
 Jv (w1.setCell (p,0) v') B p bx (code++[y]) g l lines h/\Below B w (w1.setCell (p,0) v')/\H9 w (w1.setCell (p,0) v'):=by
 have o:p<w.heap.size:=(Array.getElem?_eq_some_iff.1 a).1;have z:vl.ownBlock≠some p:=tw c a (by decide);have d:w1.heap[p]?=some (.cells #[vl,vb,vn,.map (some bm),vw] 179 (0,0)):=by rw[b.block p o (Ne.symm z)];exact a
 have x:bm≠p:=by
  intro e;subst e;rw[f]at a;injection a with a;cases a
 refine⟨⟨v',vb,vn,vw,bm,HS d,i,?_,t,H6 hb b (H5 hb c (by decide)) d (by decide),H6 m b (H5 m c (by decide)) d (by decide),H6 q b (H5 q c (by decide)) d (by decide),r,?_⟩,?_,?_⟩
 ·have:=JN (j:=0) (u:=v') v d (by decide)
  simpa[b4]using this
 ·rw[HL (by simpa using x),b.block bm (Array.getElem?_eq_some_iff.1 f).1 (Ne.symm (Jb c f))];exact f
 ·exact II b (fun k s=>(c.lt k s).1) i o
 ·exact IX a b (Je c (by decide))
end
theorem Kc{B:Nat}{w w':World}(h:Below B w.drew w'):Below B w w':=⟨h.os,h.tape,h.output,h.size,h.block⟩
theorem M1:(prog.info? 184).map (fun i=>(i.zero,i.size,i.bytes))=some (some (.agg #[.string ByteArray.empty,.int .i64 0]),2,24):=by kernel_rfl
theorem Ng:(prog.info? 3).map (fun i=>(i.zero,i.size,i.bytes))=some (some (.int .i64 0),1,8):=by kernel_rfl
theorem Lf(s:ByteArray)(ej:s.size<=65536)(line:Int)(B p:Nat)(st:w3)(w:World)(dC:HQ w B p p st)(c7:B<=w.heap.size)(w0:ByteArray)(en:H3 s=[w0])
 (g6:1<=w0.size) (g7:w0.size<=65536) (ch:sv w0 (w0.size-1)=58) (cC:HY st.labels (w0.extract 0 (w0.size-1)) 0=none) (cW:Iy (w0.extract 0 (w0.size-1))=true) (go:st.labels.length<=1048576) (gr:st.lines.length<=1048576):
 Calls prog 71 #[(p,0),.string s,line] w (HX {st with labels:=st.labels++[(w0.extract 0 (w0.size-1),(st.code.length:Int))],lines:=st.lines++[line]} B p w):=by
 have av:=Z dC;have bw:=Z en;have p1:w0.size-1<w0.size:=by omega
 have g1:((w0[w0.size-1].toNat:Int)==58)=true:=by rw[ck,beq_iff_eq];exact ch
 have K:=Z cC;have a9:=Z (IW (w0.extract 0 (w0.size-1)) (by unfold maxLen;simp;omega) true cW);go_in
 go_wp2_with fail
 refine(Io s ej w).mono ?_;rintro e w1 ⟨v,rfl,M,L⟩;rw[bw]at M;obtain⟨g,cap,rfl,gc,cl,gk,H⟩:=Im.Ju M (by simp);have P:=av.below L;have bi:=Z P;obtain⟨vl,vb,vn,vw,bm,b,l,h,o,c,q,x,m,f⟩:=P;have fn:w1.cell? (p,3)=some (.map (some bm)):=sb b;have t0:w1.cell? (g,0)=some (.string w0):=H.cell (j:=0) rfl;have G:p<w1.heap.size:=(Array.getElem?_eq_some_iff.1 b).1;have cm:g<w1.heap.size:=H.lt;have a3:=Z f;have gs:∀nq,(Instr.lookup 176 (.map (some bm)) (.string (w0.extract 0 (w0.size-1))) true).run prog (w1.drewN nq)=.ok (.tuple #[.int .i64 0,.bool false]) (w1.drewN nq):=fun nq=>by
  rw[I0 (w1.drewN nq) bm st.labels st.labels.length _ a3,K];rfl
 have bv:=Z H;have gf:1<=cap:=by simpa using cl
 simp only[List.length_cons,List.length_nil];go_wp2
 have hd:(0:Int)<=(w0.size:Int)-1:=by omega
 have he:((w0.size:Int)-1).toNat=w0.size-1:=by omega
 have hf:(w0.size:Int)-1<=(w0.size:Int):=by omega
 go_quiet (fail)
 obtain⟨w2,r⟩:=nm (w1.drewN nq);have J:Hid (Below w.heap.size w w2):=by rw[<-r];exact below_drewN L _
 have dN:HQ w2 B p p st:=by rw[<-r];exact bi
 have k:Im w2 g [w0]:=by rw[<-r];exact bv
 rw[r];obtain⟨vl,vb,vn,vw,bm,b,l,h,o,c,q,x,m,f⟩:=dN.parts;obtain⟨c2,c3,rfl⟩:=H2 c;have V:w2.cell? (p,1)=some (.slice c2 st.labels.length c3):=sb b;have fn:w2.cell? (p,3)=some (.map (some bm)):=sb b;have t0:w2.cell? (g,0)=some (.string w0):=k.cell (j:=0) rfl;have A:=Z (Jv.put (w:=w2.drew) (w0.extract 0 (w0.size-1),(st.code.length:Int)) b l h o c q x m f);have hb:(Instr.mapUpdate 176 (.map (some bm)) (.string (w0.extract 0 (w0.size-1))) (.int .i64 st.labels.length)).run prog w2.drew=.ok () (Ip w2.drew bm (HM (st.labels++[(w0.extract 0 (w0.size-1),(st.code.length:Int))])) (st.labels.length+1)):=
  Ld w2.drew bm st.labels (w0.extract 0 (w0.size-1),(st.code.length:Int)) f K
 go_wp2_with (go_at_call 116;refine(a9 _).mono ?_;rintro e w' ⟨rfl,rfl⟩)
 go_still_tail 14,(by kernel_rfl)
 change wpList _ _ _ _ _ w2.drew;go_wp2
 obtain⟨a,S⟩:=nm (Ip w2.drew bm (HM (st.labels++[(w0.extract 0 (w0.size-1),(st.code.length:Int))])) (st.labels.length+1));rw[S];have d:Hid (Jv a B p p st.code (st.labels++[(w0.extract 0 (w0.size-1),(st.code.length:Int))]) st.labels st.lines st.bu/\Below B w2 a/\H9 w2 a):=by rw[<-S];exact⟨A.1,Kc A.2.1,A.2.2⟩
 obtain⟨vl,vb,vn,vw,bm,b,l,h,o,c,q,x,m,f⟩:=d.1;obtain⟨ac,c4,rfl⟩:=H2 h;have hm:a.cell? (p,0)=some (.slice ac st.code.length c4):=sb b;have V:a.cell? (p,1)=some vb:=sb b;have c5:a.frozen? (p,1)=false:=Jd b;have t0:a.cell? (g,0)=some (.string w0):=(k.keep d.2.2).cell (j:=0) rfl;have G:p<a.heap.size:=(Array.getElem?_eq_some_iff.1 b).1;have cm:g<a.heap.size:=(k.keep d.2.2).lt;have T:vb.ownBlock≠some p:=tw c b (by decide);have hi:vb.ownBlock≠some g:=by
  obtain⟨cur,ci,_⟩:=k.keep d.2.2;exact tw c ci (by decide)
 have g8:B<=a.heap.size:=by omega
 obtain⟨eW,cq,eL,eS,eV⟩:=info_parts M1;have Y:=Z cq;have ap:=Z b;have a2:=Z h;have ad:=Z o;have al:=Z q;have c0:=Z x;have a4:=Z f;have fz:=Z k;go_cut [] (fun wc=>Jv wc B p p st.code (st.labels++[(w0.extract 0 (w0.size-1),(st.code.length:Int))]) (st.labels++[(w0.extract 0 (w0.size-1),(st.code.length:Int))]) st.lines st.bu/\Below B a wc/\H9 a wc)
 case first=>
  go_region_law (first|(refine step_append_lies _ (by rfl) _ _ _ (by rfl) B 184 eW _ 2 24 underlying112 Y eL eS eV rfl (by omega) vb st.labels.length (HV st.labels) (by rfl) ((c.alloc _).drew) ⟨a.heap.size,0,none⟩ 1 1 [.string (w0.extract 0 (w0.size-1)),.int .i64 st.code.length] (by rfl) (by rfl) (World.news_of_block (cs:=#[.string (w0.extract 0 (w0.size-1)),.int .i64 st.code.length]) (t:=184) (fr:=(0,0)) (heap_alloc_new a _)) (by simp[Value.oneCell']) (by omega) (by unfold maxLen;omega) (by omega) (by simp;omega) (a.heap.size+1) (by simp) ?_;intro g5 g4 w4 dr D ge gt;have hn:w4.cell? (p,1)=some vb:=(D.cell_far ⟨p,1,none⟩ (by simp;omega) (Ne.symm T)).trans (by simp[go_sem,World.cell?_alloc_past,G,V]);have hu:w4.frozen? (p,1)=false:=(D.frozen_far ⟨p,1,none⟩ (by simp;omega) (Ne.symm T)).trans (by simp[go_sem,World.frozen?_alloc_past,G,c5])))
  all_goals(go_wp2_with fail;go_meet;exact(M0 (y:=(w0.extract 0 (w0.size-1),(st.code.length:Int))) ap l a2 ad c al c0 m a4 (by simpa using dr) (HO (HW D))))
 case rest=>
  obtain⟨i1,es⟩:=nm wc;subst es;have R:=hcut;have z:=Z R;obtain⟨hK,hF,I,i0,g2,i,c9,cL,cS,cd,F,et,ce,cQ⟩:=z.1;have fd:wc.cell? (p,2)=some I:=sb i;have c6:wc.frozen? (p,2)=false:=Jd i;have O:p<wc.heap.size:=(Array.getElem?_eq_some_iff.1 i).1;have U:I.ownBlock≠some p:=tw F i (by decide);have g9:B<=wc.heap.size:=by omega
  obtain⟨fb,cA,ex,eA,eC⟩:=info_parts Ng;have am:=Z i;have a1:=Z cL;have ab:=Z cS;have X:=Z cd;have bx:=Z et;have a5:=Z cQ;have a0:=Z cA;go_wp2_with (at_builtin;refine wpList_append_own _ rfl _ _ 87 rfl B 3 fb (.int .i64 0) 1 8 underlying87 a0 ex eA eC rfl (by decide) _ _ _ rfl (F.alloc _) ⟨wc.heap.size,0,none⟩ 1 1 [line] rfl rfl ?_ ?_ ?_ ?_ ?_ ?_)
  ·intro j u n
   match j,n with
   |0,n=>simp at n;subst n;simp[Addr.add]
  ·first|rfl|(intro u Q;simp at Q;subst Q;rfl)
  ·unfold maxLen;omega
  ·omega
  ·simp;omega
  ·intro hB W N E _
   have hv:W.cell? (p,2)=some I:=(E.cell_far ⟨p,2,none⟩ (by simp;omega) (Ne.symm U)).trans (by simp[go_sem,World.cell?_alloc_past,O,fd]);have hw:W.frozen? (p,2)=false:=(E.frozen_far ⟨p,2,none⟩ (by simp;omega) (Ne.symm U)).trans (by simp[go_sem,World.frozen?_alloc_past,O,c6]);obtain⟨g0,g3,rfl⟩:=H2 N;have c1:=Mv (y:=line) am c9 a1 ab X F bx ce a5 (by simpa using N) (HO E);have C:=Z c1;go_wp2
   go_ret;have c8:=(J.mono c7).trans (d.2.1.trans (z.2.1.trans C.2.1));have cb:=(Ir J).trans (d.2.2.trans (z.2.2.trans C.2.2));exact⟨rfl,Jv.whole C.1,c8,cb⟩
def IG(k:Int×Int×Int):Nat:=if k.1=0 then 0 else if k.2.1=0 then 1 else if k.2.2=0 then 2 else 3
def Ij(k:Int×Int×Int)(i:Nat):Int:=if i=0 then k.1 else if i=1 then k.2.1 else k.2.2
def B2(a:List ByteArray)(i:Nat):ByteArray:=a.getD i ByteArray.empty
def HZ(line:Int)(k:Int×Int×Int)(a:List ByteArray):Nat->Nat->w3->be->Except Bool (w3×be)
 |0,_,st,X=> .ok (st,X)
 |f+1,i,st,X=>match IP st X (Ij k i) (B2 a i) line with
  |.ok (c,b)=>HZ line k a f (i+1) c b
  |.error t=> .error t
def Jw(st:w3):Except Bool be->Except Bool w3
 |.ok X=> .ok {st with code:=st.code++[X]}
 |.error t=> .error t
def JB(n:Nat)(a:List ByteArray):Except Bool (w3×be)->Except Bool w3
 |.ok (st,X)=>Jw st (if n<a.length then H4 X (B2 a n)else .ok X)
 |.error t=> .error t
def Kd(op:Int):be:=⟨op,0,0,0,0,0,0⟩
def Ik(n:Nat)(a:List ByteArray):Bool:=decide (a.length≠n/\(a.length≠n+1∨sv (B2 a n) 0≠33))
def IL(st:w3)(w0:ByteArray)(rest:List ByteArray)(line:Int):Except Bool w3:=
 if Kb w0=0 then .error true
 else if Ik (IG (H0 (Kb w0))) rest then .error true
 else JB (IG (H0 (Kb w0))) rest (HZ line (H0 (Kb w0)) rest (IG (H0 (Kb w0))) 0 st (Kd (Kb w0)))
def Mw(w:World)(a:Nat)(k:Int×Int×Int):Prop:=w.heap[a]?=some (.cells #[.int .i64 k.1,.int .i64 k.2.1,.int .i64 k.2.2] 259 (0,0))
theorem JO(k:Int×Int×Int):IG k<=3:=by
 rcases k with⟨a,b,c⟩
 simp only[IG];by_cases a=0<;>by_cases b=0<;>by_cases c=0<;>simp_all
theorem LH(K:Int×Int×Int)(k:Nat)(e:k<=IG K)(d:k<3)(f:Ij K k=0):k=IG K:=by
 rcases K with⟨a,b,c⟩
 have h:k=0∨k=1∨k=2:=by omega
 simp only[IG,Ij]at*;rcases h with rfl|rfl|rfl<;>by_cases a=0<;>by_cases b=0<;>by_cases c=0<;>simp_all
theorem Mx(K:Int×Int×Int)(k:Nat)(e:k<=IG K)(d:k<3)(f:¬Ij K k=0):k<IG K:=by
 rcases K with⟨a,b,c⟩
 have h:k=0∨k=1∨k=2:=by omega
 simp only[IG,Ij]at*;rcases h with rfl|rfl|rfl<;>by_cases a=0<;>by_cases b=0<;>by_cases c=0<;>simp_all
theorem JH{w':World}(h:Below B w.drew w'):Below B w w':=⟨h.os,h.tape,h.output,h.size,h.block⟩
theorem LI(f:Bool×Bool×Bool×Bool):(0<=(I4 f).1/\(I4 f).1<=9)/\(0<=(I4 f).2.1/\(I4 f).2.1<=9)/\(0<=(I4 f).2.2/\(I4 f).2.2<=9):=by
 obtain⟨a,b,c,d⟩:=f;cases a<;>cases b<;>cases c<;>cases d<;>decide
theorem LJ(x:Int):(0<=(H0 x).1/\(H0 x).1<=9)/\(0<=(H0 x).2.1/\(H0 x).2.1<=9)/\(0<=(H0 x).2.2/\(H0 x).2.2<=9):=by
 unfold H0
 repeat(split;·decide)
 exact LI _
theorem LK{x:Int}{K:Int×Int×Int}{i:Nat}(g:i<IG K)(d:H0 x=K):1<=Ij K i/\Ij K i<=9:=by
 have h:=LJ x;rw[d]at h;have f:=JO K;obtain⟨a,b,c⟩:=K;have e:i=0∨i=1∨i=2:=by omega
 simp only[IG,Ij]at*;rcases e with rfl|rfl|rfl<;>by_cases a=0<;>by_cases b=0<;>by_cases c=0<;>simp_all<;>omega
theorem HQ.self{p bx:Nat}{st:w3}(h:HQ w B p bx st):HQ w B p p st:=by
 obtain⟨vl,vb,vn,vw,bm,b,c,a,_,rest⟩:=h;exact⟨vl,vb,vn,vw,bm,b,c,a,tw a b (by decide),rest⟩
theorem L3:(prog.info? 152).map (fun i=>(i.zero,i.size,i.bytes))=some (some (.agg #[.int .i64 0,.int .i64 0,.int .i64 0,.int .i64 0,.int .u64 0,.int .i64 0,.int .i64 0]),7,56):=by kernel_rfl
theorem Kk(s:ByteArray)(c:s.size<=65536)(b:1<=s.size)(line:Int)(bx:Nat)(X a:be)(h:H4 X s=.ok a)(w:World)(d:nb w bx X):
 Calls prog 120 #[(bx,0),.string s,line] w (pk (.ok a) bx line w):=by rw[<-h];exact LZ s c b line bx X w d ⟨_,h⟩
theorem L4{st a:w3}{X b:be}{kd line:Int}{y:ByteArray}(h:IP st X kd y line=.ok (a,b)):a.bu.length<=st.bu.length+1/\a.code.length=st.code.length:=by
 unfold IP at h;split at h
 ·injection h with h;injection h with h _;subst h;simp
 ·split at h
  ·cases h
  ·unfold JW at h
   split at h
   ·injection h with h;injection h with h _;subst h;simp
   ·cases h
theorem Mw.cell{a:Nat}{K:Int×Int×Int}(h:Mw w a K)(k:Nat)(b:k<3):w.cell? (a,k)=some (.int .i64 (Ij K k)):=by
 rw[sb h]
 match k,b with
 |0,_=>rfl
 |1,_=>rfl
 |2,_=>rfl
theorem L5(s:ByteArray)(k0:s.size<=65536)(line:Int)(B p:Nat)(st:w3)(w:World)(gc:HQ w B p p st)(i9:B<=w.heap.size)(w0:ByteArray)(rest:List ByteArray)(gf:H3 s=w0::rest)
 (lb:1<=w0.size) (lc:w0.size<=65536) (E:rest≠[]∨sv w0 (w0.size-1)≠58) (j':rest.length<=65536) (gk:∀y∈rest,1<=y.size/\y.size<=65536) (cS:Kb w0≠0) (mv:st.bu.length<=1000000) (mz:st.code.length<=1048576) {W:w3} (g4:IL st w0 rest line=.ok W):
 Calls prog 71 #[(p,0),.string s,line] w (HX W B p w):=by
 have M:=Z g4;have hB:=Z gc;have i0:=Z gf;have p1:w0.size-1<w0.size:=by omega
 have g8:(Kb w0==0)=false:=by rw[beq_eq_false_iff_ne];exact cS
 have hw:=Z cS;have cd:=Z gk;clear gk;obtain⟨K,fb⟩:=mn (H0 (Kb w0));have hi:=Z fb;clear fb;obtain⟨L,fd⟩:=mn (rest.length+1);have ll:1<=L:=by omega
 have lm:L<=65537:=by omega
 have ex:Hid (L=rest.length+1):=fd;have al:((L:Int)==1)=false∨(((L:Int)==1)=true/\((w0[w0.size-1].toNat:Int)==58)=false):=by
  rcases Nat.eq_zero_or_pos rest.length with h|h
  ·refine Or.inr ⟨by rw[beq_iff_eq];omega,?_⟩
   rcases E with E|E
   ·exact absurd (List.eq_nil_of_length_eq_zero h) E
   ·rw[ck,beq_eq_false_iff_ne];exact E
  ·exact Or.inl (by rw[beq_eq_false_iff_ne];omega)
 clear gc gf cS fd E j' g4;go_in
 go_wp2_with fail
 refine(Io s k0 w).mono ?_;rintro e w1 ⟨v,rfl,cW,a9⟩;rw[i0]at cW;obtain⟨g,cap,rfl,li,g1,ip,bv⟩:=Im.Ju cW (by simp);have cm:(w0::rest).length=L:=ex.symm;rw[cm];have t0:w1.cell? (g,0)=some (.string w0):=bv.cell (j:=0) rfl;have mh:g<w1.heap.size:=bv.lt;have mb:L<=cap:=by rw[<-cm];exact g1
 have ge:=bv;clear cW bv cm g1;obtain⟨x,bw⟩:=mn (Kb w0);have mc:(cap:Int)<=9223372036854775807:=by unfold maxLen at ip;omega
 have hK:=Z ge;have n2:(x==0)=false:=by rw[bw];exact g8
 have eV:=Z bw;have c7:Hid (H0 x=K):=by show _=_;rw[bw];exact hi.symm
 clear bw g8 ge;go_upto_region 5 with fail
 go_cut [37] (fun kE wc=>kE=.bool false/\wc=w1)
 case first=>
  rcases al with al|⟨al,lI⟩
  all_goals
   go_wp2
   go_meet
   exact⟨rfl,rfl⟩
 case rest=>
  obtain⟨rfl,rfl⟩:=hcut;clear al;go_upto_region 16 with(first|(go_at_call 117;refine(Lv _ _).mono ?_;rintro e w' ⟨rfl,rfl⟩;rw[<-eV])|fail)
  go_cut [7] (fun kT r=>∃o a2 R:Nat,kT=.slice (some (g,o)) R a2/\R+1<=L/\L<=R+1/\(2<=L->o=1)/\R<=a2/\a2<=cap/\r=wc.alloc (.cells #[x,.int .i64 0,.int .i64 0,.int .i64 0,.int .u64 0,.int .i64 0,.int .i64 0] 152))
  case first=>
   by_cases lH:cap<=1
   ·obtain rfl:cap=1:=by omega
    go_wp2_with fail
    all_goals(go_meet;exact⟨0,0,0,by first|rfl|rw[show L-1=0 from by omega],by omega,by omega,by omega,by omega,by omega,rfl⟩)
   ·go_wp2_with fail
    all_goals(go_meet;exact⟨1,_,L-1,rfl,by omega,by omega,by omega,by omega,by omega,rfl⟩)
  case rest=>
   obtain⟨o,a2,R,rfl,lo,ls,cQ,l',m7,rfl⟩:=hcut;have lF:=a9.size;obtain⟨bx,ad⟩:=mn wc.heap.size;rw[<-ad];have l:Hid (nb (wc.alloc (.cells #[x,.int .i64 0,.int .i64 0,.int .i64 0,.int .u64 0,.int .i64 0,.int .i64 0] 152)) bx (Kd x)):=by
    rw[ad];exact hU
   have c4:=Z ad;clear ad;have dN:(wc.alloc (.cells #[x,.int .i64 0,.int .i64 0,.int .i64 0,.int .u64 0,.int .i64 0,.int .i64 0] 152)).cell? (bx,0)=some (.int .i64 x):=l.cell 0;go_upto_region 18 with(first|(go_at_call 118;refine(Kx _ _).mono ?_;rintro e w' ⟨rfl,O⟩;rw[c7])|fail)
   obtain⟨ch,cq⟩:=mn (w'.heap.size);rw[<-cq];obtain⟨d,U⟩:=nm (w'.alloc (.cells #[.int .i64 K.1,.int .i64 K.2.1,.int .i64 K.2.2] 259));rw[U];have ab:Below wc.heap.size wc d:=by
    rw[<-U];exact((((Below.refl _ wc).alloc (Nat.le_refl _) _).trans (O.mono (by simp))).alloc (by have:=O.size;simp at this;omega) _)
   have gr:nb d bx (Kd x):=by
    have i8:Below (wc.heap.size+1) (wc.alloc (.cells #[x,.int .i64 0,.int .i64 0,.int .i64 0,.int .u64 0,.int .i64 0,.int .i64 0] 152)) d:=by
     rw[<-U];exact((O.mono (by simp)).alloc (by have:=O.size;simp at this;omega) _)
    unfold nb;rw[i8.block bx (by rw[c4];omega)];exact l
   have A:Mw d ch K:=(by rw[<-U,cq];exact hU);have c2:=Z ab;have i2:=Z gr;have et:=Z A;have fz:B<=bx:=(by rw[c4];omega);have hF:Hid (HQ d B p bx st):=((hB.below a9).fresh bx (by rw[c4];exact Nat.le_refl _)).below ab;have c8:Hid (Im d g (w0::rest)):=hK.keep (Ir ab);clear ab gr A U O dN l cq;go_upto_block 0 with fail
   go_cut [13] (fun kk r=>kk=.int .i64 (IG K)/\d=r)
   case first=>
    go_wp2
    go_loop [13] (fun n=>∃k:Nat,k<=IG K/\n=.int .i64 k) (fun n=>4-(intOf n).toNat)
    case atStart=>exact⟨0,Nat.zero_le _,rfl⟩
    case round=>
     obtain⟨k,g3,rfl⟩:=hrel;have ms:=JO K;by_cases cl:k<3
     ·have eW:=et.cell k cl
      by_cases I:Ij K k=0
      ·have kb:(Ij K k !=0)=false:=by rw[bne_eq_false_iff_eq];exact I
       have ap:Hid (k=IG K):=LH K k g3 cl I;clear I;go_wp2
       all_goals(go_meet;exact⟨by rw[ap.out],rfl⟩)
      ·have kb:(Ij K k !=0)=true:=by rw[bne_iff_ne];exact I
       have ap:=Mx K k g3 cl I;clear I;go_wp2
       all_goals
        go_round
        case rel=>exact⟨k+1,by omega,by go_num⟩
        case measure=>simp[intOf];omega
     ·have ap:Hid (k=IG K):=by show _=_;omega
      go_wp2
      all_goals(go_meet;exact⟨by rw[ap.out],rfl⟩)
   case rest=>
    obtain⟨rfl,rfl⟩:=hcut;obtain⟨n,bi⟩:=mn (IG K);rw[<-bi];have mC:n<=3:=(by rw[bi];exact JO K);have eA:=Z bi;have fn:rest.length=R:=(by have:=ex.out;omega);have m:=Z fn;clear bi fn;go_upto_region 21 with fail
    go_cut [152] (fun s r=>s=.bool (Ik n rest)/\d=r)
    case first=>
     by_cases C:R=n
     ·have i4:((R:Int) !=(n:Int))=false:=by rw[bne_eq_false_iff_eq];omega
      have X:Hid (Ik n rest=false):=(by show _=_;unfold Ik;rw[decide_eq_false_iff_not];intro h;exact h.1 (m.trans C));clear C;go_wp2
      all_goals(go_meet;exact⟨by rw[X],rfl⟩)
     ·have i4:((R:Int) !=(n:Int))=true:=by rw[bne_iff_ne];omega
      by_cases ci:R=n+1
      ·obtain rfl:o=1:=cQ (by omega)
       have f:(rest)[n]?=some (B2 rest n):=by
        unfold B2;rw[List.getD_eq_getElem?_getD,List.getElem?_eq_getElem (by rw[m];omega)];rfl
       have u:=(cd (B2 rest n) (List.mem_of_getElem? f)).1;have a3:d.cell? ⟨g,1+n,none⟩=some (.string (B2 rest n)):=by
        rw[Nat.add_comm];exact c8.cell (j:=n+1) f
       have i5:((R:Int) !=(n:Int)+1)=false:=(by rw[bne_eq_false_iff_eq];omega);have mL:n<R:=(by omega);have n8:0<(B2 rest n).size:=(by omega);have X:Hid (Ik n rest=decide (sv (B2 rest n) 0≠33)):=by
        show _=_;unfold Ik;rw[decide_eq_decide,m];exact⟨fun h=>(h.2.resolve_left (by omega)),fun h=>⟨C,Or.inr h⟩⟩
       have l0:=Z f;clear C ci f;by_cases D:sv (B2 rest n) 0=33
       ·have i6:(((B2 rest n)[0].toNat:Int) !=33)=false:=by rw[ck,bne_eq_false_iff_eq];exact D
        have J:Hid (Ik n rest=false):=(by show _=_;rw[X,decide_eq_false_iff_not];exact fun h=>h D);clear D;go_wp2
        all_goals(go_meet;exact⟨by rw[J],rfl⟩)
       ·have i6:(((B2 rest n)[0].toNat:Int) !=33)=true:=by rw[ck,bne_iff_ne];exact D
        have J:Hid (Ik n rest=true):=(by show _=_;rw[X,decide_eq_true_eq];exact D);clear D;go_wp2
        all_goals(go_meet;exact⟨by rw[J],rfl⟩)
      ·have i5:((R:Int) !=(n:Int)+1)=true:=by rw[bne_iff_ne];omega
       have J:Hid (Ik n rest=true):=(by show _=_;unfold Ik;rw[decide_eq_true_eq,m];exact⟨C,Or.inl ci⟩);clear C ci;go_wp2
       all_goals(go_meet;exact⟨by rw[J],rfl⟩)
    case rest=>
     obtain⟨rfl,rfl⟩:=hcut;have cb:Hid (IL st w0 rest line=if Ik n rest then .error true else JB n rest (HZ line K rest n 0 st (Kd x))):=by
      show _=_
      unfold IL;rw[if_neg hw.out,<-eV,c7,<-eA]
     by_cases a5:Ik n rest=true
     ·have N:IL st w0 rest line=.error true:=by rw[cb,if_pos a5]
      cases M.symm.trans N
     ·have cA:Ik n rest=false:=by simpa using a5
      have N:Hid (IL st w0 rest line=JB n rest (HZ line K rest n 0 st (Kd x))):=(by show _=_;rw[cb,if_neg a5]);have a4:R=n∨R=n+1:=by
       have h:=of_decide_eq_false cA;rw[m]at h;omega
      clear a5 cb;have lt:n<=R:=(by omega);have lv:R<=n+1:=(by omega);clear a4;have gs:Hid (Below w.heap.size w d):=a9.trans (c2.mono (by omega));have mM:=c2.size;have n1:B<=d.heap.size:=(by omega);rw[cA];clear cA;go_wp2
      go_loopw [157] (fun kw wr=>∃(i:Nat) (b:w3) (c:be),i<=n/\kw=.int .i64 i/\HQ wr B p bx b/\nb wr bx c/\Below B d wr/\H9 d wr/\b.bu.length<=1000000+i/\Hid (b.code.length=st.code.length)/\Hid (HZ line K rest (n-i) i b c=HZ line K rest n 0 st (Kd x))) (fun s _=>4-(intOf s).toNat)
      case atStart=>exact⟨0,st,Kd x,by omega,rfl,hF,i2,Below.refl _ _,H9.refl _,by omega,rfl,rfl⟩
      case round=>
       obtain⟨i,b,c,mk,rfl,T,V,P,F,n0,en,Y⟩:=hrel;have mS:=P.size;by_cases it:i<n
       ·have mp:i<R:=by omega
        obtain rfl:o=1:=cQ (by omega);have f:rest[i]?=some (B2 rest i):=by
         unfold B2;rw[List.getD_eq_getElem?_getD,List.getElem?_eq_getElem (by rw[m];omega)];rfl
        have u:=(cd (B2 rest i) (List.mem_of_getElem? f)).2;have a3:wr.cell? (g,1+i)=some (.string (B2 rest i)):=by
         rw[Nat.add_comm];exact(c8.keep F).cell (j:=i+1) f
        have eW:wr.cell? (ch,i)=some (.int .i64 (Ij K i)):=Mw.cell (F ch _ 259 _ (Or.inr (Or.inr rfl)) et) i (by omega);obtain⟨kd,A⟩:=mn (Ij K i);obtain⟨y,H⟩:=mn (B2 rest i);rw[<-A]at eW;rw[<-H]at a3 u;have cC:1<=kd/\kd<=9:=(by rw[A];exact LK (by rw[<-eA];exact it) c7);have c6:Hid (HZ line K rest (n-i) i b c=match IP b c kd y line with|.ok (c1,a)=>HZ line K rest (n-(i+1)) (i+1) c1 a|.error t=> .error t):=by
         show _=_
         rw[show n-i=(n-(i+1))+1 from by omega,HZ,<-A,<-H]
        have eL:=Z T;have l:=Z V;have c3:=Z P;have a0:=Z F;have k2:(i:Int)<(R:Int):=(by omega);have na:(0:Int)<=(i:Int):=(by omega);have nd:(i:Int)<3:=(by omega);clear P F A H f;rcases S:IP b c kd y line with tt|⟨c1,a⟩
        ·have z:IL st w0 rest line=.error tt:=by rw[N,<-Y,c6,S];rfl
         cases M.symm.trans z
        ·have hd:=Z (qB y u kd line cC.1 cC.2 B p bx b c wr.drew V T fz (by omega) S)
         have he:Hid (HZ line K rest (n-i) i b c=HZ line K rest (n-(i+1)) (i+1) c1 a):=by
          show _=_;rw[c6,S]
         have eS:=Z (L4 S);clear S c6 T V cC;go_wp2
         go_still_tail 9,(by kernel_rfl)
         change wpList _ _ _ _ _ wr.drew;go_wp2_with (go_at_call 119;refine hd.mono ?_;rintro e w' ⟨rfl,jr,k1,ii,j9⟩)
         go_roundw
         case rel=>exact⟨i+1,c1,a,by omega,by go_num,jr,k1,c3.trans (JH ii),a0.trans j9,by have:=eS.1;omega,eS.2.trans en,by show _=_;rw[<-he];exact Y⟩
         case measure=>simp[intOf];omega
       ·obtain rfl:n=i:=by omega
        have es:Hid (HZ line K rest n 0 st (Kd x)=.ok (b,c)):=by
         have h:=Y.out;rw[Nat.sub_self,HZ]at h;exact h.symm
        have a1:Hid (IL st w0 rest line=Jw b (if n<R then H4 c (B2 rest n)else .ok c)):=by
         show _=_;rw[N,es];unfold JB;rw[m]
        have eL:=Z T;have l:=Z V;have c3:=Z ((gs.mono i9).trans P);have a0:=Z F;have hm:Hid (H9 w d):=(Ir a9).trans (Ir c2);clear T V P F Y N es;go_upto_if 177 with fail
        go_cut [] (fun r=>∃a,nb r bx a/\wr.grownBy r (some bx)/\W={b with code:=b.code++[a]})
        case first=>
         by_cases a4:n<R
         ·obtain rfl:o=1:=cQ (by omega)
          have f:rest[n]?=some (B2 rest n):=by
           unfold B2;rw[List.getD_eq_getElem?_getD,List.getElem?_eq_getElem (by rw[m];omega)];rfl
          have u:=cd (B2 rest n) (List.mem_of_getElem? f);have a3:wr.cell? ⟨g,1+n,none⟩=some (.string (B2 rest n)):=by
           rw[Nat.add_comm];exact(c8.keep a0).cell (j:=n+1) f
          have c9:Hid (IL st w0 rest line=Jw b (H4 c (B2 rest n))):=(by show _=_;rw[a1,if_pos a4]);obtain⟨y,H⟩:=mn (B2 rest n);rw[<-H]at a3 u c9;clear H f a1;have k2:(n:Int)<(R:Int):=(by omega);rcases av:H4 c y with tt|a
          ·have z:IL st w0 rest line=.error tt:=by rw[c9,av];rfl
           cases M.symm.trans z
          ·have hb:=Z (Kk y u.2 u.1 line bx c a av wr l)
           have z:Hid (W={b with code:=b.code++[a]}):=Z (Except.ok.inj (M.symm.trans (by rw[c9,av];rfl)));clear av u;go_wp2_with (first|(go_at_call 120;refine hb.mono ?_;rintro e w' ⟨rfl,c0,Q⟩)|fail)
           go_meet
           exact⟨a,c0,Q,z⟩
         ·have z:Hid (W={b with code:=b.code++[c]}):=Z (Except.ok.inj (M.symm.trans (by rw[a1,if_neg a4];rfl)))
          clear a1;go_wp2
          go_meet
          exact⟨c,l,cf _ _,z⟩
        case rest=>
         obtain⟨a,c0,Q,rfl⟩:=hcut;obtain⟨w',rfl⟩:∃w',w'=wc:=⟨_,rfl⟩;have q:=Z c0;have c5:=Z Q;have mW:=Q.size;clear c0 Q;have i3:=(eL.grown l c5).self;obtain⟨vl,vb,vn,vw,bm,G,ih,cL,g6,g0,g7,go,io,g5⟩:=i3;have dN:w'.cell? (p,0)=some vl:=sb G;have i7:w'.frozen? (p,0)=false:=Jd G;have x0:w'.cell? (bx,0)=some (.int .i64 a.op):=(q).cell 0;have x1:w'.cell? (bx,1)=some (.int .i64 a.a):=(q).cell 1;have x2:w'.cell? (bx,2)=some (.int .i64 a.b):=(q).cell 2;have x3:w'.cell? (bx,3)=some (.int .i64 a.c):=(q).cell 3;have x4:w'.cell? (bx,4)=some (.int .u64 a.v):=(q).cell 4;have x5:w'.cell? (bx,5)=some (.int .i64 a.m):=(q).cell 5;have x6:w'.cell? (bx,6)=some (.int .i64 a.wh):=(q).cell 6;have dr:p<w'.heap.size:=(Array.getElem?_eq_some_iff.1 G).1;have lG:bx<w'.heap.size:=(q).lt;have dC:vl.ownBlock≠some p:=tw cL G (by decide);obtain⟨kf,g2,k3,k4,k5⟩:=info_parts L3;have hf:=Z g2;have eC:=Z G;have hu:=Z g6;have gt:=Z g0;have hv:=Z g7;have i1:=Z go;have hn:=Z g5;have md:b.code.length<=1048576:=(by have:=en.out;omega);have le:B<=w'.heap.size:=(by omega);clear g2 G g6 g0 g7 go g5;go_wp2
         go_region_law (first|(refine step_append_lies _ (by rfl) _ _ _ (by rfl) B 152 kf _ 7 56 underlying43 hf k3 k4 k5 rfl (by omega) vl b.code.length (b4 b.code) (by rfl) ((cL.alloc _).drew) ⟨w'.heap.size,0,none⟩ 1 1 [.int .i64 a.op,.int .i64 a.a,.int .i64 a.b,.int .i64 a.c,.int .u64 a.v,.int .i64 a.m,.int .i64 a.wh] (by rfl) (by rfl) (World.news_of_block (cs:=#[.int .i64 a.op,.int .i64 a.a,.int .i64 a.b,.int .i64 a.c,.int .u64 a.v,.int .i64 a.m,.int .i64 a.wh]) (t:=152) (fr:=(0,0)) (heap_alloc_new w' _)) (by simp[Value.oneCell']) (by omega) (by unfold maxLen;omega) (by omega) (by simp;omega) (w'.heap.size+1) (by simp) ?_;intro la l1 ej g9 am lw mA;have ne:ej.cell? (p,0)=some vl:=(am.cell_far ⟨p,0,none⟩ (by simp;omega) (Ne.symm dC)).trans (by simp[go_sem,World.cell?_alloc_past,dr,dN]);have ni:ej.frozen? (p,0)=false:=(am.frozen_far ⟨p,0,none⟩ (by simp;omega) (Ne.symm dC)).trans (by simp[go_sem,World.frozen?_alloc_past,dr,i7])))
         all_goals
          go_wp2
          go_ret;have jp:ej.heap[p]?=some (.cells #[vl,vb,vn,.map (some bm),vw] 179 (0,0)):=by
           rw[(HO (HW am)).block p dr (Ne.symm dC)];exact eC
          have ce:=Lw (y:=a) eC ih cL hu gt hv i1 io hn (by simpa[aD]using g9) (HO (HW am)) (tw g9 jp (by decide));exact⟨rfl,Jv.whole (st:={b with code:=b.code++[a]}) ce.1,(c3.trans (Jc fz l.lt c5)).trans ce.2.1,((hm.trans a0).trans (Ki l c5)).trans ce.2.2⟩
def KU(st:w3)(nm:ByteArray)(line:Int):Except Bool w3:=
 match HY st.labels nm 0 with
 |some _=> .error true
 |none=>if Iy nm then .ok {st with labels:=st.labels++[(nm,(st.code.length:Int))],lines:=st.lines++[line]}else .error true
def JZ(st:w3)(line:Int):List ByteArray->Except Bool w3
 |[]=> .ok st
 |w0::rest=>if rest=[]/\sv w0 (w0.size-1)=58 then KU st (w0.extract 0 (w0.size-1)) line else IL st w0 rest line
def J0(st:w3)(s:ByteArray)(line:Int):Except Bool w3:=JZ st line (H3 s)
theorem yR(s:ByteArray)(m:s.size<=65536)(line:Int)(B p:Nat)(st:w3)(w:World)(l:HQ w B p p st)(f:B<=w.heap.size)
 (x:st.bu.length<=1000000) (d:st.code.length<=1048576) (z:st.labels.length<=1048576) (A:st.lines.length<=1048576) {t:w3} (a:J0 st s line=.ok t):
 Calls prog 71 #[(p,0),.string s,line] w (HX t B p w):=by
 obtain⟨c,o⟩:=KT s;unfold J0 at a;rcases b:H3 s with _|⟨w0,rest⟩
 ·rw[b]at a
  rw[<-Except.ok.inj a];exact LG s m line B p st w l f b
 ·rw[b]at c o a
  have u:=c w0 (by simp);have D:rest.length<=65536:=by simp at o;omega
  by_cases g:rest=[]/\sv w0 (w0.size-1)=58
  ·obtain⟨rfl,n⟩:=g
   have e:JZ st line [w0]=KU st (w0.extract 0 (w0.size-1)) line:=if_pos ⟨rfl,n⟩;rw[e]at a;unfold KU at a;rcases i:HY st.labels (w0.extract 0 (w0.size-1)) 0 with _|j
   ·rw[i]at a
    by_cases k:Iy (w0.extract 0 (w0.size-1))=true
    ·simp only[k,if_true]at a
     rw[<-Except.ok.inj a];exact Lf s m line B p st w l f w0 b u.1 (by omega) n i k z A
    ·simp only[k]at a
     cases a
   ·rw[i]at a
    cases a
  ·have e:JZ st line (w0::rest)=IL st w0 rest line:=if_neg g
   rw[e]at a;have C:rest≠[]∨sv w0 (w0.size-1)≠58:=by
    by_cases h:rest=[]
    ·exact Or.inr fun d=>g ⟨h,d⟩
    ·exact Or.inl h
   by_cases q:Kb w0=0
   ·have v:IL st w0 rest line=.error true:=if_pos q
    rw[v]at a;cases a
   ·exact L5 s m line B p st w l f w0 rest b u.1 (by omega) C D (fun y r=>⟨(c y (by simp[r])).1,by have:=(c y (by simp[r])).2;omega⟩) q x d a
structure Lg(st:w3):Prop where
 same:st.labels.length=st.lines.length
 want:∀x∈st.bu,0<=x.1/\x.1<st.code.length
 Mq:∀b∈st.labels,0<=b.2/\b.2<=st.code.length
structure Lh(st st':w3):Prop where
 code:st'.code.length<=st.code.length+1
 labels:st'.labels.length<=st.labels.length+1
 lines:st'.lines.length<=st.lines.length+1
 bu:st'.bu.length<=st.bu.length+3
theorem Li{st a:w3}{X b:be}{kd line:Int}{y:ByteArray}(h:IP st X kd y line=.ok (a,b)):
 a.code=st.code/\a.labels=st.labels/\a.lines=st.lines/\(a.bu=st.bu∨a.bu=st.bu++[((st.code.length:Int),line,y)]):=by
 unfold IP at h;split at h
 ·injection h with h;injection h with h _;subst h;exact⟨rfl,rfl,rfl,Or.inr rfl⟩
 ·split at h
  ·cases h
  ·unfold JW at h
   split at h
   ·injection h with h;injection h with h _;subst h;exact⟨rfl,rfl,rfl,Or.inl rfl⟩
   ·cases h
theorem Jx(line:Int)(K:Int×Int×Int)(e:List ByteArray):∀(f i:Nat) (st:w3) (X:be) (b:w3) (c:be),HZ line K e f i st X=.ok (b,c)->
 b.code=st.code/\b.labels=st.labels/\b.lines=st.lines/\b.bu.length<=st.bu.length+f/\(∀x∈b.bu,x∈st.bu∨x.1=st.code.length)
 |0,i,st,X,b,c,h=>by
  unfold HZ at h;injection h with h;injection h with h _;subst h
  exact⟨rfl,rfl,rfl,by omega,fun x a=>Or.inl a⟩
 |f+1,i,st,X,b,c,h=>by
  unfold HZ at h;split at h
  ·rename_i o g n
   obtain⟨a1,a2,a3,a4⟩:=Li n;obtain⟨j,k,l,d,m⟩:=Jx line K e f (i+1) o g b c h;refine⟨j.trans a1,k.trans a2,l.trans a3,?_,fun x a=> ?_⟩
   ·rcases a4 with a4|a4
    ·rw[a4]at d;omega
    ·rw[a4]at d;simp at d;omega
   ·rcases m x a with a|a
    ·rcases a4 with a4|a4
     ·rw[a4]at a;exact Or.inl a
     ·rw[a4]at a
      rcases List.mem_append.1 a with a|a
      ·exact Or.inl a
      ·have:=List.mem_singleton.1 a;subst this;exact Or.inr rfl
    ·exact Or.inr (by rw[a,a1])
  ·cases h
theorem My{st i:w3}{w0:ByteArray}{rest:List ByteArray}{line:Int}(g:Lg st)(h:IL st w0 rest line=.ok i):Lg i/\Lh st i:=by
 unfold IL at h;split at h
 ·cases h
 ·split at h
  ·cases h
  ·rcases f:HZ line (H0 (Kb w0)) rest (IG (H0 (Kb w0))) 0 st (Kd (Kb w0))with t|⟨c,l⟩
   ·rw[f]at h;cases h
   ·rw[f]at h
    obtain⟨d,e,j,m,k⟩:=Jx _ _ _ _ _ _ _ _ _ f;have n:=JO (H0 (Kb w0));have key:∀X,Lg {c with code:=c.code++[X]}/\Lh st {c with code:=c.code++[X]}:=by
     intro X;refine⟨⟨by rw[e,j];exact g.same,fun x a=> ?_,fun b hb=> ?_⟩,⟨by simp[d],by simp[e],by simp[j],by simp;omega⟩⟩
     ·simp only[List.length_append,List.length_singleton,d]
      rcases k x a with a|a
      ·have:=g.want x a;exact⟨this.1,by push_cast;omega⟩
      ·rw[a];exact⟨by omega,by push_cast;omega⟩
     ·simp only[List.length_append,List.length_singleton,d]
      have hb:b∈st.labels:=(by rw[<-e];exact hb);have:=g.Mq b hb;exact⟨this.1,by push_cast;omega⟩
    unfold JB Jw at h;dsimp only at h;split at h
    ·rename_i X _
     injection h with h;subst h;exact key X
    ·cases h
theorem L7{st c:w3}{s:ByteArray}{line:Int}(a:Lg st)(h:J0 st s line=.ok c):Lg c/\Lh st c:=by
 unfold J0 at h;rcases d:H3 s with _|⟨w0,rest⟩
 ·rw[d]at h
  unfold JZ at h;injection h with h;subst h
  exact⟨a,⟨by omega,by omega,by omega,by omega⟩⟩
 ·rw[d]at h
  replace h:(if rest=[]/\sv w0 (w0.size-1)=58 then KU st (w0.extract 0 (w0.size-1)) line else IL st w0 rest line)=.ok c:=h
  split at h
  ·unfold KU at h
   split at h
   ·cases h
   ·split at h
    ·injection h with h;subst h
     refine⟨⟨by simp[a.same],a.want,fun b hb=> ?_⟩,⟨by simp,by simp,by simp,by simp⟩⟩;rcases List.mem_append.1 hb with hb|hb
     ·exact a.Mq b hb
     ·have:=List.mem_singleton.1 hb;subst this;exact⟨by dsimp only;omega,by dsimp only;omega⟩
    ·cases h
  ·exact My a h
def Il:List ByteArray->Int->w3->Except (Bool×Int) w3
 |[],_,st=> .ok st
 |l::ls,i,st=>match J0 st l i with
  |.ok a=>Il ls (i+1) a
  |.error t=> .error (t,i)
def Hl(code:List be)(at_:Nat)(v:Int):List be:=code.modify at_ fun X=>{X with v:=v}
def L8(l:List (ByteArray×Int))(j:Nat):Int:=((l[j]?).map (·.2)).getD 0
def IJ(labels:List (ByteArray×Int)):List (Int×Int×ByteArray)->List be->Option (List be)
 |[],code=>some code
 |x::xs,code=>match HY labels x.2.2 0 with
  |some j=>IJ labels xs (Hl code x.1.toNat (L8 labels j))
  |none=>none
def IQ:w3:=⟨[],[],[],[]⟩
def ID(st:w3):Option (List be×List (ByteArray×Int)):=
 match IJ st.labels st.bu st.code with
 |none=>none
 |some code=>if 2048<code.length then none else if st.labels.any (fun b=>b.2==(code.length:Int))then none else some (code,st.labels)
def IK(ls:List ByteArray):Except (Bool×Int) (List be×List (ByteArray×Int)):=
 match Il ls 0 IQ with
 |.error t=> .error t
 |.ok st=>match ID st with
  |some r=> .ok r
  |none=> .error (false,0)
def MR:ByteArray:=⟨#[10]⟩
def Is(s:ByteArray):List ByteArray:=Lib.splitB MR 0 (Lib.countB s MR) s
def Iu(s:ByteArray):Except (Bool×Int) (List be×List (ByteArray×Int)):=IK (Is s)
theorem JI(sep:ByteArray):∀(k:Nat) (s:ByteArray),∀x∈Lib.splitB sep 0 k s,x.size<=s.size
 |0,s,x,a=>by have:=List.mem_singleton.1 a;subst this;exact Nat.le_refl _
 |k+1,s,x,a=>by
  unfold Lib.splitB at a;split at a
  ·have:=List.mem_singleton.1 a;subst this;exact Nat.le_refl _
  ·rcases List.mem_cons.1 a with rfl|a
   ·simp;omega
   ·have:=JI sep k _ x a
    simp at this;omega
theorem Jy(s:ByteArray):(Is s).length=Lib.countB s MR+1:=Lib.splitB_all MR (by decide) 0 _ s rfl
theorem KV(s:ByteArray):(Is s).length<=s.size+1:=by
 rw[Jy];have:=Lib.countB_le MR (by decide) s.size s (Nat.le_refl _);omega
def M2(r:Except (Bool×Int) (List be×List (ByteArray×Int)))(w:World)(e:Ending)(w':World):Prop:=
 match r with
 |.ok (code,labels)=>∃vl vb,e=.returned (.tuple #[vl,vb,.nilIface])/\w'.ownsRow w.heap.size 152 7 vl code.length (b4 code)/\w'.ownsRow w.heap.size 184 2 vb labels.length (HV labels)/\Below w.heap.size w w'
 |.error _=>True
theorem L9:Lg IQ:=⟨rfl,(fun x a=>by cases a),(fun x a=>by cases a)⟩
variable{c j n:Nat}{e:TypeId}{xs:List Value}
theorem IE{size:Nat}(h:w.ownsRow B e size (.slice (some (g,0)) n c) n xs):
 ∃cur:Array Value,w.heap[g]?=some (.cells cur e (0,0))/\n<=c/\c<=maxLen/\cur.size=c*size/\cur.toList.take (n*size)=xs/\B<=g/\xs.length=n*size:=by
 rcases h.2 with⟨b,_⟩|⟨g',cap,cur,b,f,k,i,l,m,o⟩
 ·cases b
 ·injection b with a p d
  injection a with a
  injection a with a _ _
  subst a;subst d;exact⟨cur,k,i,l,m,o,f,h.1⟩
theorem IS{size:Nat}{v:Value}(h:w.ownsRow B e size v n xs)(b:0<n):∃g c,v=.slice (some ⟨g,0,none⟩) n c:=by
 rcases h.2 with⟨_,a⟩|⟨g,cap,cur,rfl,_⟩
 ·omega
 ·exact⟨g,cap,rfl⟩
theorem Ih{size:Nat}(h:w.ownsRow B e size (.slice (some (g,0)) n c) n xs){u:Value}(a:xs[j]?=some u):w.cell? (g,j)=some u:=by
 obtain⟨cur,b,f,k,l,d,_,i⟩:=IE h;rw[sb b];rw[<-d,List.getElem?_take]at a;split at a
 ·simpa using a
 ·cases a
theorem LM{size:Nat}(h:w.ownsRow B e size (.slice (some (g,0)) n c) n xs)(j:Nat):w.frozen? (g,j)=false:=by
 obtain⟨cur,a,_⟩:=IE h;exact Jd a
theorem KB{size:Nat}(h:w.ownsRow B e size (.slice (some (g,0)) n c) n xs)(m:j<xs.length)(u:Value):
 (w.setCell (g,j) u).ownsRow B e size (.slice (some (g,0)) n c) n (xs.set j u):=by
 obtain⟨cur,d,b,i,k,l,a,f⟩:=IE h;refine⟨by simpa using f,Or.inr ⟨g,c,cur.setIfInBounds j u,rfl,a,HS d,b,i,by simpa using k,?_⟩⟩;rw[Array.toList_setIfInBounds,List.take_set,l]
theorem Kl:∀(l:List be) (a:Nat) (X:be),l[a]?=some X->(b4 l)[a*7+4]?=some (.int .u64 X.v)
 |[],a,X,h=>by simp at h
 |Y::l,0,X,h=>by
  have:Y=X:=by simpa using h
  subst this;rfl
 |Y::l,a+1,X,h=>by
  rw[kA,List.getElem?_append_right (by simp[aD];omega)];have:=Kl l a X (by simpa using h);rw[show(a+1)*7+4-(aD Y).toList.length=a*7+4 from by simp[aD];omega];exact this
theorem JJ:∀(l:List be) (a:Nat) (v:Int),a<l.length->(b4 l).set (a*7+4) (.int .u64 v)=b4 (Hl l a v)
 |[],a,v,h=>by simp at h
 |Y::l,0,v,h=>rfl
 |Y::l,a+1,v,h=>by
  have ih:=JJ l a v (by simpa using h);unfold Hl at ih⊢;rw[List.modify_succ_cons,kA,kA,<-ih,List.set_append_right _ _ (by simp[aD];omega)]
  congr 2
  simp[aD];omega
theorem J1(l:List be)(a:Nat)(v:Int):(Hl l a v).length=l.length:=by simp[Hl]
theorem I6:∀(l:List (Int×Int×ByteArray)) (j:Nat) (x:Int×Int×ByteArray),l[j]?=some x->(HP l)[j*3]?=some (.int .i64 x.1)/\(HP l)[j*3+1]?=some (.int .i64 x.2.1)/\(HP l)[j*3+2]?=some (.string x.2.2)
 |[],j,x,h=>by simp at h
 |y::l,0,x,h=>by
  have:y=x:=by simpa using h
  subst this;exact⟨rfl,rfl,rfl⟩
 |y::l,j+1,x,h=>by
  obtain⟨a,b,d⟩:=I6 l j x (by simpa using h);have e:HP (y::l)=[.int .i64 y.1,.int .i64 y.2.1,.string y.2.2]++HP l:=rfl;rw[e];refine⟨?_,?_,?_⟩
  ·rw[List.getElem?_append_right (by simp;omega),show(j+1)*3-_=j*3 from by simp;omega];exact a
  ·rw[List.getElem?_append_right (by simp;omega),show(j+1)*3+1-_=j*3+1 from by simp;omega];exact b
  ·rw[List.getElem?_append_right (by simp;omega),show(j+1)*3+2-_=j*3+2 from by simp;omega];exact d
theorem If:∀(l:List (ByteArray×Int)) (j:Nat) (x:ByteArray×Int),l[j]?=some x->(HV l)[j*2]?=some (.string x.1)/\(HV l)[j*2+1]?=some (.int .i64 x.2)
 |[],j,x,h=>by simp at h
 |y::l,0,x,h=>by
  have:y=x:=by simpa using h
  subst this;exact⟨rfl,rfl⟩
 |y::l,j+1,x,h=>by
  obtain⟨a,b⟩:=If l j x (by simpa using h);have e:HV (y::l)=[.string y.1,.int .i64 y.2]++HV l:=rfl;rw[e];refine⟨?_,?_⟩
  ·rw[List.getElem?_append_right (by simp;omega),show(j+1)*2-_=j*2 from by simp;omega];exact a
  ·rw[List.getElem?_append_right (by simp;omega),show(j+1)*2+1-_=j*2+1 from by simp;omega];exact b
theorem J2:∀(l:List (ByteArray×Int)) (nm:ByteArray) (i j:Nat),HY l nm i=some j->i<=j/\j<i+l.length
 |[],nm,i,j,h=>by simp[HY]at h
 |b::l,nm,i,j,h=>by
  unfold HY at h;split at h
  ·injection h with h;subst h;simp
  ·have:=J2 l nm (i+1) j h
   simp only[List.length_cons];omega
theorem Mz{w w1:World}{B p b f bm a:Nat}{code:List be}{labels:List (ByteArray×Int)}{lines:List Int}{i:List (Int×Int×ByteArray)}{vb vn vw:Value}(v:Int)
 (q:w.heap[p]?=some (.cells #[.slice (some (b,0)) code.length f,vb,vn,.map (some bm),vw] 179 (0,0))) (t:B<=p) (k:w.ownsRow B 152 7 (.slice (some (b,0)) code.length f) code.length (b4 code))
 (hb:w.ownsRow B 184 2 vb labels.length (HV labels)) (A:w.ownsRow B 3 1 vn lines.length (Ig lines)) (E:w.ownsRow B 183 3 vw i.length (HP i))
 (x:B<=bm) (m:w.heap[bm]?=some (.map (HM labels) labels.length)) (c:Below w.heap.size w w1) (u:a<code.length):
 HQ (w1.setCell (b,a*7+4) (.int .u64 v)) B p p ⟨Hl code a v,labels,lines,i⟩/\Below B w (w1.setCell (b,a*7+4) (.int .u64 v))/\
  (w1.setCell (b,a*7+4) (.int .u64 v)).cell? (p,4)=some vw:=by
 have d:=H' k c;have j:=H' hb c;have o:=H' A c;have s:=H' E c;have D:=(Array.getElem?_eq_some_iff.1 q).1;have r:w1.heap[p]?=some (.cells #[.slice (some (b,0)) code.length f,vb,vn,.map (some bm),vw] 179 (0,0)):=by rw[c.block p D];exact q
 have n:w1.heap[bm]?=some (.map (HM labels) labels.length):=by rw[c.block bm (Array.getElem?_eq_some_iff.1 m).1];exact m
 have C:p≠b:=fun e=>by
  have:=tw d r (by decide);exact this (by rw[e];rfl)
 have z:bm≠b:=fun e=>by
  have:=Jb d n;exact this (by rw[e];rfl)
 have g:(w1.setCell (b,a*7+4) (.int .u64 v)).heap[p]?=some (.cells #[.slice (some (b,0)) code.length f,vb,vn,.map (some bm),vw] 179 (0,0)):=by
  rw[HL (by simpa using C)];exact r
 have l:(w1.setCell (b,a*7+4) (.int .u64 v)).ownsRow B 152 7 (.slice (some (b,0)) (Hl code a v).length f) (Hl code a v).length (b4 (Hl code a v)):=by
  rw[J1,<-JJ code a v u];exact KB d (by rw[mu];omega) _
 refine⟨⟨_,vb,vn,vw,bm,by rw[g,J1],t,l,tw l g (by decide),?_,?_,?_,x,?_⟩,?_,sb g⟩
 ·exact ownsRow_setCell_other j (by exact(H5 j d (by decide)).elim (fun h=>by rw[h];simp) id) _
 ·exact ownsRow_setCell_other o (by exact(H5 o d (by decide)).elim (fun h=>by rw[h];simp) id) _
 ·exact ownsRow_setCell_other s (by exact(H5 s d (by decide)).elim (fun h=>by rw[h];simp) id) _
 ·rw[HL (by simpa using z)];exact n
 ·have y:=k.lt b rfl
  exact(c.mono (by omega)).setCell (by simpa using y.1) _
theorem LN(s:ByteArray)(n8:s.size<=65536)(R:List be×List (ByteArray×Int))(gf:Iu s=.ok R)(m:Int)(w:World)(f:w.cell? (1,0)=some (.int .i64 m)):
 Calls prog 36 #[.string s] w (M2 (.ok R) w):=by
 have E:=Z gf;have li:= @run_makeMap prog;have k0:1<w.heap.size:=World.block_lt_of_cell? w _ f;obtain⟨H,dr⟩:∃H:World,H=(w.alloc (.map #[] 0)).alloc (.cells #[.slice none 0 0,.slice none 0 0,.slice none 0 0,.map (some w.heap.size),.slice none 0 0] 179):=⟨_,rfl⟩;have hi:H.cell? (1,0)=some (.int .i64 m):=by rw[dr];rw[World.cell?_alloc_past _ _ _ (by simp;omega),World.cell?_alloc_past _ _ _ k0];exact f
 have g4:=Z (JA s MR m H (by omega) hi (by decide));have U:=Z dr;clear f hi dr gf;go_in
 go_wp2_with fail
 rw[<-U];refine g4.mono ?_;rintro e cA ⟨rfl,al⟩;obtain⟨ls,a0⟩:=mn (Is s);have ge:Lib.countB s MR+1=ls.length:=by rw[a0];exact(Jy s).symm
 have hlen:ls.length<=65537:=by rw[a0];have:=KV s;omega
 have lm:Hid (∀x∈ls,x.size<=65536):=by
  intro x O;rw[a0]at O;have:=JI MR _ s x O;omega
 have cs:Hid (Iu s=IK ls):=by show _=_;rw[a0];rfl
 have lo:H.heap.size=w.heap.size+2:=by rw[U];simp
 have eL:Im cA H.heap.size ls:=by
  refine⟨_,by rw[al];exact hU,fun j x en=> ?_⟩;rw[a0]at en;simpa[Is]using en
 have go:Below w.heap.size w H:=by rw[U];exact((Below.refl _ _).alloc (Nat.le_refl _) _).alloc (by simp) _
 have gr:Below w.heap.size w cA:=by rw[al];exact go.alloc (by omega) _
 have eC:HQ cA w.heap.size (w.heap.size+1) (w.heap.size+1) IQ:=by
  refine⟨.slice none 0 0,.slice none 0 0,.slice none 0 0,.slice none 0 0,w.heap.size,?_,by omega,World.ownsRow_nil _ _ _ _,by simp[Value.ownBlock],World.ownsRow_nil _ _ _ _,World.ownsRow_nil _ _ _ _,World.ownsRow_nil _ _ _ _,Nat.le_refl _,?_⟩
  ·rw[al,H7 (by omega),U,show w.heap.size+1=(w.alloc (.map #[] 0)).heap.size from by simp]
   exact hU
  ·rw[al,H7 (by omega),U,H7 (by simp)]
   exact hU
 rw[ge];obtain⟨g,gt⟩:=mn H.heap.size;rw[<-gt]at eL⊢;obtain⟨p,d⟩:=mn (w.heap.size+1);rw[<-d]at eC;obtain⟨N,cW⟩:=mn ls.length;rw[<-cW]at hlen⊢;have c0:=Z cW;have g3:=Z eL;have g1:=Z eC;have eW:=Z gr;have n2:w.heap.size<=p:=by omega
 have fz:=Z d;clear al a0 ge lo eL go gr eC gt U g4 cW d li;try rw[<-fz]
 go_wp2
 try rw[<-fz]
 go_loopw [28] (fun lI wr=>∃(k:Nat) (st:w3),k<=N/\lI=.int .i64 k/\HQ wr w.heap.size p p st/\Hid (Lg st)/\st.code.length<=k/\st.labels.length<=k/\st.lines.length<=k/\st.bu.length<=3*k/\Below w.heap.size w wr/\Im wr g ls/\Hid (Il (ls.drop k) k st=Il ls 0 IQ)) (fun s _=>N-(intOf s).toNat)
 case atStart=>exact⟨0,IQ,by omega,rfl,g1,L9,by simp[IQ],by simp[IQ],by simp[IQ],by simp[IQ],eW,g3,rfl⟩
 case round=>
  obtain⟨k,st,n0,rfl,cb,c1,mp,kd,ms,kf,hb,cd,bx⟩:=hrel;by_cases n1:k<N
  ·have bv:ls[k]?=some (B2 ls k):=by
    unfold B2;rw[List.getD_eq_getElem?_getD,List.getElem?_eq_getElem (by rw[<-c0];omega)];rfl
   have hw:=lm.out (B2 ls k) (List.mem_of_getElem? bv);have jr:wr.cell? (g,k)=some (.string (B2 ls k)):=cd.cell bv;have C:Hid (ls.drop k=B2 ls k::ls.drop (k+1)):=by
    show _=_
    rw[List.drop_eq_getElem_cons (by rw[<-c0];omega)]
    congr 1
    rw[List.getElem?_eq_getElem (by rw[<-c0];omega)]at bv;exact Option.some.inj bv
   obtain⟨y,hB⟩:=mn (B2 ls k);rw[<-hB]at jr hw C;have ch:=Z hb;have ii:=Z cd;rcases av:J0 st y k with tt|hK
   ·have D:Iu s=.error (tt,(k:Int)):=by rw[cs];unfold IK;rw[<-bx,C,Il,av]
    cases E.symm.trans D
   ·have i2:=Z (yR y hw k w.heap.size p st wr cb (by have:=hb.size;omega) (by omega) (by omega) (by omega) (by omega) av)
    clear bv hB cb hb cd;have i4:Hid (Il (ls.drop (k+1)) ((k:Int)+1) hK=Il ls 0 IQ):=by
     show _=_;rw[<-bx,C,Il,av]
    have ab:=Z (L7 c1 av);clear av;go_wp2_with (go_at_call 71;refine i2.mono ?_;rintro e w' ⟨rfl,ll,k5,le⟩)
    go_roundw
    case rel=>exact⟨k+1,hK,by omega,by go_num,ll,ab.1,by have:=ab.2.code;omega,by have:=ab.2.labels;omega,by have:=ab.2.lines;omega,by have:=ab.2.bu;omega,ch.trans k5,ii.keep le,by show _=_;rw[<-i4];congr 1⟩
    case measure=>simp[intOf];omega
  ·have fn:Hid (Il ls 0 IQ=.ok st):=by
    show _=_
    rw[<-bx,List.drop_eq_nil_of_le (by rw[<-c0];omega)];rfl
   have g2:=Z cb;have ch:=Z hb;have mk:=hb.size;clear cb hb cd bx g1 g3 eW;obtain⟨vl,vb,vn,vw,bm,d,F,q,B,l,u,n,G,f⟩:=g2.parts;obtain⟨cC,ad,rfl⟩:=H2 n;have hF:wr.cell? (p,4)=some (.slice cC st.bu.length ad):=sb d;clear d F q B l u G f;go_wp2
   obtain⟨J,eA⟩:=mn st.bu.length;rw[<-eA]at hF n kf⊢;have T:=Z eA;clear eA n;go_loopw [46] (fun l' Q=>∃(j:Nat) (code:List be),j<=J/\l'=.int .i64 j/\HQ Q w.heap.size p p {st with code:=code}/\Q.cell? (p,4)=some (.slice cC J ad)/\Hid (code.length=st.code.length)/\Below w.heap.size w Q/\Hid (IJ st.labels (st.bu.drop j) code=IJ st.labels st.bu st.code)) (fun s _=>J-(intOf s).toNat)
   case atStart=>exact⟨0,st.code,by omega,rfl,g2,hF,rfl,ch,rfl⟩
   case round=>
    obtain⟨j,code,en,rfl,a1,hn,fd,Y,c2⟩:=hrel;by_cases es:j<J
    ·obtain⟨vl,vb,vn,vw,bm,d,F,q,B,l,u,n,G,f⟩:=a1.parts
     have j':vw=.slice cC J ad:=by
      have:=sb (i:=4) d;rw[hn]at this;exact(Option.some.inj this).symm
     subst j';have O:st.bu[j]?=some (st.bu[j]'(by rw[<-T];exact es)):=List.getElem?_eq_getElem _;obtain⟨x,eS⟩:∃x,x=st.bu[j]'(by rw[<-T];exact es):=⟨_,rfl⟩;rw[<-eS]at O;have hv:x∈st.bu:=List.mem_of_getElem? O;have lt:=c1.want x hv;obtain⟨W,md,l1⟩:=IS n (by simp only[<-T.out];omega);injection l1 with la lb lc
     subst la;clear lb lc;obtain⟨k1,k2,k3⟩:=I6 st.bu j x O;have a2:wr.ownsRow w.heap.size 183 3 (.slice (some (W,0)) J ad) J (HP st.bu):=(by simpa only[<-T.out]using n);have cL:wr.cell? ⟨W,j*3,none⟩=some (.int .i64 x.1):=Ih a2 k1;have g6:wr.cell? ⟨W,j*3+1,none⟩=some (.int .i64 x.2.1):=Ih a2 k2;have cQ:wr.cell? ⟨W,j*3+2,none⟩=some (.string x.2.2):=Ih a2 k3;have mC:W<wr.heap.size:=(a2.lt W rfl).2;have c8:p<wr.heap.size:=(Array.getElem?_eq_some_iff.1 d).1;have P:wr.cell? (p,0)=some vl:=sb d;have a4:wr.cell? (p,1)=some vb:=sb d;have lw:wr.cell? (p,3)=some (.map (some bm)):=sb d;have kb:bm<wr.heap.size:=(Array.getElem?_eq_some_iff.1 f).1;have kk:J<=ad:=(by obtain⟨_,_,h,_⟩:=IE a2;exact h);have c7:∀nq,(Instr.lookup 176 (.map (some bm)) (.string x.2.2) true).run prog ((wr.alloc (.cells #[.int .i64 x.1,.int .i64 x.2.1,.string x.2.2] 183)).drewN nq)=.ok (JY (HY st.labels x.2.2 0)) ((wr.alloc (.cells #[.int .i64 x.1,.int .i64 x.2.1,.string x.2.2] 183)).drewN nq):=fun nq=>
      I0 _ bm st.labels st.labels.length _ (by show(wr.alloc _).heap[bm]?=_;rw[H7 kb];exact f)
     have C:Hid (st.bu.drop j=x::st.bu.drop (j+1)):=by
      show _=_
      rw[List.drop_eq_getElem_cons (by rw[<-T];exact es),eS]
     have i8:=Z d;have K:=Z q;have mb:=Z B;have S:=Z l;have i7:=Z u;have io:=Z n;have i6:=Z f;have ci:=Z Y;have g0:=Z a1;have k4:=Y.size;clear d q B l u n f Y a1 k1 k2 k3 O eS hv a2;rcases c6:HY st.labels x.2.2 0 with _|i
     ·have D:Iu s=.error (false,0):=by
       rw[cs];unfold IK;rw[fn];have e:IJ st.labels st.bu st.code=none:=(by rw[<-c2,C,IJ,c6]);dsimp only;unfold ID;rw[e]
      cases E.symm.trans D
     ·rw[c6]at c7
      unfold JY at c7;have mW:=J2 _ _ _ _ c6;obtain⟨z,I,rfl⟩:=IS S (by simp only;omega);have A:st.labels[i]?=some (st.labels[i]'(by omega)):=List.getElem?_eq_getElem _;obtain⟨y,a3⟩:=mn (st.labels[i]'(by omega));rw[<-a3]at A;have lv:=c1.Mq y (List.mem_of_getElem? A);have g7:wr.cell? (z,i*2+1)=some (.int .i64 y.2):=Ih S (If st.labels i y A).2;have hd:z<wr.heap.size:=(S.lt z rfl).2;obtain⟨a,dC⟩:=Int.eq_ofNat_of_zero_le lt.1;have dN:a<code.length:=(by have:=fd.out;omega);obtain⟨M,g8,rfl⟩:=IS K (by simp only;omega);have gk:code[a]?=some (code[a]'dN):=List.getElem?_eq_getElem _;have g9:wr.cell? (M,a*7+4)=some (.int .u64 (code[a]'dN).v):=Ih K (Kl code a _ gk);have gc:wr.frozen? (M,a*7+4)=false:=LM K _;have he:M<wr.heap.size:=(K.lt M rfl).2;have i5:Hid (L8 st.labels i=y.2):=(by show _=_;unfold L8;rw[A];rfl);have i0:=Z dC;rw[dC]at cL c7;have mM:(i:Int)<(st.labels.length:Int):=(by omega);have mS:(a:Int)<(code.length:Int):=(by omega);clear A a3 gk dC;go_wp2
      go_quiet (fail)
      clear c7;have na:0<=y.2:=lv.1;have nd:y.2<=18446744073709551615:=(by omega);obtain⟨V,X⟩:=nm ((wr.alloc (.cells #[.int .i64 (a:Int),.int .i64 x.2.1,.string x.2.2] 183)).drewN nq);have a5:∀b o,b<wr.heap.size->V.cell? ⟨b,o,none⟩=wr.cell? ⟨b,o,none⟩:=by
       intro b o hb;rw[<-X];exact World.cell?_alloc_past _ _ _ hb
      have eV:∀b o,b<wr.heap.size->V.frozen? ⟨b,o,none⟩=wr.frozen? ⟨b,o,none⟩:=by
       intro b o hb;rw[<-X];exact World.frozen?_alloc_past _ _ _ hb
      have lF:=(a5 p 0 c8).trans P;have lG:=(a5 p 1 c8).trans a4;have lH:=(a5 z (i*2+1) hd).trans g7;have nw:=(a5 M (a*7+4) he).trans g9;have no:=(eV M (a*7+4) he).trans gc;have nx:V.cell? ⟨wr.heap.size,0,none⟩=some (.int .i64 a):=by
       rw[<-X];exact sb (c:=#[.int .i64 (a:Int),.int .i64 x.2.1,.string x.2.2]) (t:=183) hU
      have fb:Hid (Below wr.heap.size wr V):=(by rw[<-X];exact below_drewN ((Below.refl _ _).alloc (Nat.le_refl _) _) _);have mz:M<V.heap.size:=(by have:=fb.size;omega);rw[X];clear X a5 eV P a4 lw cL g6 cQ g7 g9 gc;go_wp2
      go_still_tail 17,(by kernel_rfl)
      change wpList _ _ _ _ _ V.drew;have R:=Mz (a:=a) y.2 i8 F K S i7 io G i6 fb dN;have E:=Z R;clear R lF lG lH;go_wp2
      go_roundw
      case rel=>exact⟨j+1,Hl code a y.2,by omega,by go_num,E.1,E.2.2,by show _=_;rw[J1];exact fd,ci.trans (E.2.1).drew,by
       show _=_
       rw[<-c2,C,IJ,c6,i0,<-i5];rfl⟩
      case measure=>simp[intOf];omega
    ·have g5:Hid (IJ st.labels st.bu st.code=some code):=by
      show _=_;rw[<-c2,List.drop_eq_nil_of_le (by rw[<-T];omega)];rfl
     have g0:=Z a1;have ci:=Z Y;have k4:=Y.size;obtain⟨vl,vb,vn,vw,bm,d,F,q,B,l,u,n,G,f⟩:=a1.parts;obtain⟨ip,g8,rfl⟩:=H2 q;obtain⟨c3,I,rfl⟩:=H2 l;have P:wr.cell? (p,0)=some (.slice ip code.length g8):=sb d;have a4:wr.cell? (p,1)=some (.slice c3 st.labels.length I):=sb d;clear a1 Y hn c2 d F q B l u n G f;obtain⟨ce,et⟩:=mn code.length;rw[<-et]at P;have a9:=Z et;clear et;have cq:Hid (Iu s=match ID st with|some r=> .ok r|none=> .error (false,0)):=by
      show _=_
      rw[cs];unfold IK;rw[fn];try rfl
     by_cases gs:2048<ce
     ·have D:Iu s=.error (false,0):=by rw[cq];unfold ID;rw[g5];dsimp only;rw[if_pos (by rw[<-a9.out];exact gs)]
      cases E.symm.trans D
     ·have fr:Hid (ID st=if st.labels.any (fun b=>b.2==(code.length:Int))then none else some (code,st.labels)):=by
       show _=_
       unfold ID;rw[g5];dsimp only;rw[if_neg (by rw[<-a9.out];exact gs)]
      go_wp2
      obtain⟨v,ex⟩:=mn st.labels.length;rw[<-ex]at a4 kd⊢;have L:=Z ex;clear ex;go_loopw [97] (fun m7 Q=>∃(i:Nat),i<=v/\m7=.int .i64 i/\HQ Q w.heap.size p p {st with code:=code}/\Q.cell? (p,1)=some (.slice c3 v I)/\Below w.heap.size w Q/\Hid (st.labels.any (fun b=>b.2==(code.length:Int))=(st.labels.drop i).any (fun b=>b.2==(code.length:Int)))) (fun s _=>v-(intOf s).toNat)
      case atStart=>exact⟨0,by omega,rfl,g0,a4,ci,rfl⟩
      case round=>
       obtain⟨i,mL,rfl,bi,c9,am,bw⟩:=hrel;clear P a4;by_cases ej:i<v
       ·obtain⟨vl,vb,vn,vw,bm,d,F,q,B,l,u,n,G,f⟩:=bi.parts
        have c4:vb=.slice c3 v I:=by
         have:=sb (i:=1) d;rw[c9]at this;exact(Option.some.inj this).symm
        subst c4;obtain⟨it,j9,rfl⟩:=H2 q;obtain⟨z,mc,kw⟩:=IS l (by simp only[<-L.out];omega);injection kw with kE kT l0
        subst kE;clear kT l0;have A:st.labels[i]?=some (st.labels[i]'(by rw[<-L];exact ej)):=List.getElem?_eq_getElem _;obtain⟨y,a3⟩:∃y,y=st.labels[i]'(by rw[<-L];exact ej):=⟨_,rfl⟩;rw[<-a3]at A;have ap:wr.ownsRow w.heap.size 184 2 (.slice (some (z,0)) v I) v (HV st.labels):=(by simpa only[<-L.out]using l);have cL:wr.cell? (z,i*2)=some (.string y.1):=Ih ap (If st.labels i y A).1;have g6:wr.cell? (z,i*2+1)=some (.int .i64 y.2):=Ih ap (If st.labels i y A).2;have hd:z<wr.heap.size:=(ap.lt z rfl).2;have kk:v<=I:=(by obtain⟨_,_,h,_⟩:=IE ap;exact h);have hu:st.lines.length=v:=(by rw[L];exact c1.same.symm);obtain⟨c5,jp,rfl⟩:=IS u (by simp only;omega);have hm:(Ig st.lines)[i]?=some (.int .i64 (st.lines[i]'(by omega))):=by
         unfold Ig;rw[List.getElem?_map,List.getElem?_eq_getElem (by omega)];rfl
        have cQ:wr.cell? (c5,i)=some (.int .i64 (st.lines[i]'(by omega))):=Ih u hm;obtain⟨ne,hf⟩:=mn (st.lines[i]'(by omega));rw[<-hf]at cQ;have mA:c5<wr.heap.size:=(u.lt c5 rfl).2;have c8:p<wr.heap.size:=(Array.getElem?_eq_some_iff.1 d).1;have P:wr.cell? (p,0)=some (.slice it ce j9):=(by rw[a9];exact sb d);have ni:wr.cell? (p,2)=some (.slice (some (c5,0)) v jp):=(by rw[<-hu];exact sb d);have C:Hid (st.labels.drop i=y::st.labels.drop (i+1)):=by
         show _=_
         rw[List.drop_eq_getElem_cons (by rw[<-L];exact ej),a3]
        have ih:=Z bi;have cl:=Z am;have i9:=Z c9;have mh:=am.size;clear d F q B l u n G f A a3 ap hm hf hu bi am c9;by_cases heq:y.2=(ce:Int)
        ·have D:Iu s=.error (false,0):=by
          have cS:st.labels.any (fun b=>b.2==(code.length:Int))=true:=by
           rw[bw,C,List.any_cons,show(y.2==(code.length:Int))=true from by rw[beq_iff_eq,heq,a9]];rfl
          rw[cq,fr,cS];rfl
         cases E.symm.trans D
        ·have mv:(y.2==(ce:Int))=false:=by rw[beq_eq_false_iff_ne];exact heq
         have i1:Hid (st.labels.any (fun b=>b.2==(code.length:Int))=(st.labels.drop (i+1)).any (fun b=>b.2==(code.length:Int))):=by
          show _=_
          rw[bw,C,List.any_cons];have:(y.2==(code.length:Int))=false:=(by rw[beq_eq_false_iff_ne,<-a9];exact heq);rw[this];rfl
         clear heq;have cm:Hid (∀nq,HQ ((wr.alloc (.cells #[.string y.1,.int .i64 y.2] 184)).drewN nq) w.heap.size p p {st with code:=code}/\((wr.alloc (.cells #[.string y.1,.int .i64 y.2] 184)).drewN nq).cell? (p,1)=some (.slice (some (z,0)) v I)/\Below w.heap.size w ((wr.alloc (.cells #[.string y.1,.int .i64 y.2] 184)).drewN nq)):=by
          intro nq;refine⟨ih.below (below_drewN ((Below.refl _ _).alloc (Nat.le_refl _) _) _),?_,below_drewN (cl.alloc (by omega) _) _⟩;show(wr.alloc _).cell? _=_
          rw[World.cell?_alloc_past _ _ _ c8];exact i9
         go_wp2
         go_quiet (fail)
         go_wp2
         go_roundw
         case rel=>exact⟨i+1,by omega,by go_num,(cm _).1,(cm _).2.1,(cm _).2.2,i1⟩
         case measure=>simp[intOf];omega
       ·have D:Hid (Iu s=.ok (code,st.labels)):=by
         show _=_
         have cS:st.labels.any (fun b=>b.2==(code.length:Int))=false:=by
          rw[bw,List.drop_eq_nil_of_le (by rw[<-L];omega)];rfl
         rw[cq,fr,cS];rfl
        obtain⟨vl,vb,vn,vw,bm,d,F,q,B,l,u,n,G,f⟩:=bi.parts;have P:wr.cell? (p,0)=some vl:=sb d;have c4:vb=.slice c3 v I:=by
         have:=sb (i:=1) d;rw[c9]at this;exact(Option.some.inj this).symm
        have K:=Z q;have S:=Z l;have cl:=Z am;have i3:=Z c4;clear bi d F q B l u n G f am c4 bw;go_wp2
        go_quiet (fail)
        go_wp2
        go_ret3;rw[Except.ok.inj (E.symm.trans D)];exact⟨_,_,rfl,K,by rw[<-i3];exact S,below_drewN cl _⟩
theorem J3{B g i:Nat}(h:Below B w w')(a:g<B):w'.cell? (g,i)=w.cell? (g,i):=by
 unfold World.cell?;simp only[h.block g a]
def Jk(nm:ByteArray):List (ByteArray×Int)->Int×Bool
 |[]=>(0,false)
 |x::l=>if x.1=nm then(x.2,true)else Jk nm l
def J4(r:Int×Bool)(w:World)(e:Ending)(w':World):Prop:=e=.returned (.tuple #[.int .i64 r.1,.bool r.2])/\Below w.heap.size w w'
theorem J4.mk{r:Int×Bool}{x:Int}{b:Bool}(h:r=(x,b))(hb:Below w.heap.size w w'):J4 r w (.returned (.tuple #[x,.bool b])) w':=⟨by rw[h],hb⟩
theorem MA(ls:List (ByteArray×Int))(nm:ByteArray)(g c:Nat)(C:ls.length<=1000000)(A:ls.length<=c)(w:World)(r:g<w.heap.size)
 (q:∀i u,(HV ls)[i]?=some u->w.cell? ⟨g,i,none⟩=some u):
 Calls prog 37 #[.slice (some (g,0)) ls.length c,.string nm] w (J4 (Jk nm ls) w):=by
 obtain⟨R,f⟩:=mn (Jk nm ls);have y:Hid (Jk nm (ls.drop 0)=R):=f.symm;have l:=Z q;obtain⟨N,d⟩:=mn ls.length;rw[<-f,<-d];rw[<-d]at C A;have n:=Z d;clear q d f;go_wp2
 go_loopw [10] (fun s D=>∃k:Nat,k<=N/\s=.int .i64 k/\Below w.heap.size w D/\Hid (Jk nm (ls.drop k)=R)) (fun s _=>N-(intOf s).toNat)
 case atStart=>exact⟨0,by omega,rfl,Below.refl _ _,y⟩
 case round=>
  obtain⟨k,E,rfl,a,e⟩:=hrel;by_cases B:k<N
  ·have t:k<ls.length:=by rw[<-n];exact B
   have h:ls[k]?=some ls[k]:=List.getElem?_eq_getElem t;have j:ls.drop k=ls[k]::ls.drop (k+1):=List.drop_eq_getElem_cons t;obtain⟨X,o⟩:=mn (ls[k]);rw[<-o]at h j;obtain⟨f0,f1⟩:=If ls k X h;have a0:=(J3 a r).trans (l _ _ f0);have a1:=(J3 a r).trans (l _ _ f1);have b:=Z a;have p:=a.size;have F:(k:Int)<(N:Int):=(by omega);have m:Hid (Jk nm (ls.drop k)=if X.1=nm then(X.2,true)else Jk nm (ls.drop (k+1))):=(by show _=_;rw[j];rfl);clear o h f0 f1 a j;cases v:(X.1.toList==nm.toList)
   ·have z:=Z (Kj v)
    go_wp2
    go_roundw
    case rel=>exact⟨k+1,by omega,by go_num,b.alloc p _,by show _=_;rw[<-e,m,if_neg z.out]⟩
    case measure=>simp[intOf];omega
   ·have x:=Z (toList_eq v)
    go_wp2
    go_ret2;exact J4.mk (by rw[<-e,m,if_pos x.out]) (b.alloc p _)
  ·obtain rfl:k=N:=by omega
   have b:=Z a;clear a;go_wp2
   go_ret2;exact J4.mk (by rw[<-e,n,List.drop_length];rfl) b
def KW(c:UInt8):List (List UInt8)->List (List UInt8)
 |[]=>[[c]]
 |x::xs=>(c::x)::xs
def IM:List UInt8->List (List UInt8)
 |[]=>[[]]
 |c::l=>if c=10 then []::IM l else KW c (IM l)
theorem Ma(c:UInt8)(l:List UInt8):Lib.index (c::l) [10]=if c=10 then 0 else if Lib.index l [10]=-1 then-1 else Lib.index l [10]+1:=by
 by_cases h:c=10
 ·subst h;simp[Lib.index]
 ·have a:¬(10:UInt8)=c:=fun e=>h e.symm
  simp[Lib.index,h,a,List.isPrefixOf]
theorem KX:∀l:List UInt8,Lib.splitK [10] 0 (Lib.count l [10]) l=IM l
 |[]=>rfl
 |c::l=>by
  have ih:=KX l;have a:=Ma c l;by_cases h:c=10
  ·rw[if_pos h]at a
   rw[Lib.count_hit (i:=0) (by simp) a,Nat.add_comm 1,Lib.splitK,a,IM,if_pos h];simpa using ih
  ·rw[if_neg h]at a
   rw[IM,if_neg h,<-ih];have j:=Lib.index_ge l [10];by_cases b:Lib.index l [10]=-1
   ·rw[if_pos b]at a
    rw[Lib.count_miss a,Lib.count_miss b];rfl
   ·rw[if_neg b]at a
    obtain⟨i,e⟩:∃i:Nat,Lib.index l [10]=i:=⟨(Lib.index l [10]).toNat,by omega⟩;have d:Lib.index (c::l) [10]=((i+1:Nat):Int):=(by rw[a,e];simp);have f:¬(Lib.index (c::l) [10]==-1)=true:=(by rw[d,beq_iff_eq];omega);have g:¬(Lib.index l [10]==-1)=true:=(by rw[beq_iff_eq];exact b);rw[Lib.count_hit (by simp) d,Lib.count_hit (by simp) e,Nat.add_comm 1,Nat.add_comm 1,Lib.splitK,Lib.splitK,if_neg f,if_neg g,d,e];simp[KW]
def LO(l:List UInt8):ByteArray:=⟨l.toArray⟩
theorem MC(l:List ByteArray):(l.map (·.data.toList)).map LO=l:=by
 rw[List.map_map]
 conv=>rhs;rw[<-List.map_id l]
 exact List.map_congr_left (fun x _=>rfl)
theorem KY(s:ByteArray):Is s=(IM s.data.toList).map LO:=by
 rw[<-KX,<-MC (Is s)];unfold Is;rw[Lib.splitB_data];rfl
theorem LP(s t:ByteArray):Iu (s++t)=IK ((IM (s.data.toList++t.data.toList)).map LO):=by
 unfold Iu;rw[KY];simp
