import Derived.Test.YtlihkblppjgebaaGreatDoorZAy
set_option linter.all false
set_option maxRecDepth 100000
set_option maxHeartbeats 8000000
namespace Go.Proofs.YtlihkblppjgebaaGreatDoor
open Go.RowKit Go.Proofs.Tryz
def n'(S:gm):gm:={S with line:=S.line+1}
def ji(S:gm)(a:List ByteArray):Option gm:=match a with
 |[]=>some (n' S)
 |w::l=>match lK S (w::l)with|none=>none|some S'=>some (n' S')
theorem jj{S S':gm}{l:List ByteArray}(h:lK S l=some S'):S'.code.length<=S.code.length+1/\S'.labels.length<=S.labels.length+1/\S'.lines.length<=S.lines.length+1/\S'.bp.length<=S.bp.length+3/\S'.line=S.line:=by
 cases l with
 |nil=>cases h
 |cons w l=>
  change(if b3 w (w.size-1)=58/\l.length=0 then sq S (w.extract 0 (w.size-1))else pq S (w::l) (iJ w b4 0 0))=some S' at h;split at h
  ·unfold sq at h
   split at h
   ·obtain rfl:=Option.some.inj h;simp
   ·cases h
  ·obtain⟨_,c,d,e,b,a,rfl,_⟩:=ml h
   obtain⟨a1,a2,a3,a4,f⟩:=jh _ a;have:=pr (iJ w b4 0 0);simp only[List.length_append,List.length_cons,List.length_nil];rw[a1,a2,a3,a4];refine⟨by omega,by omega,by omega,by omega,rfl⟩
theorem dD.more{w:World}{B p:Nat}{S:gm}(h:dD w B p p S):dD (w.setCell ⟨p,4,none⟩ (.int .i64 (S.line+1))) B p p (n' S):=by
 obtain⟨b,c,d,e,h⟩:=h;have a:=h.row;exact⟨b,c,d,e,a.a' _ _ rfl,h.hB,dL h.code a (by decide),h.ne,dL h.labels a (by decide),dL h.lines a (by decide),dL h.bp a (by decide)⟩
theorem ej(X:aV):(dg X).length=7:=rfl
theorem n5.mi{w:World}{B p:Nat}{g n cap:Nat}{o r t:Value}{S:gm}{C:List aV}(h:n5 w B p p (.slice (some ⟨g,0,none⟩) n cap) o r t {S with code:=C}){i:Nat}{X:aV}(x:C[i]?=some X)(d:n=C.length)(v:Int):
 dD (w.setCell ⟨g,i*7+4,none⟩ (.int .u64 v)) B p p {S with code:=C.set i {X with v:=v}}/\Below B w (w.setCell ⟨g,i*7+4,none⟩ (.int .u64 v)):=by
 have A:(Value.slice (some ⟨g,0,none⟩) n cap).ownBlock=some g:=rfl;obtain⟨F,cs,j⟩:=bJ h.code A;have c:Ch (aK g) w (w.setCell ⟨g,i*7+4,none⟩ (.int .u64 v)):=(Ch.refl _ _).only _ _;have q:∀{e:TypeId} {s:Nat} {m:Value} {n:Nat} {u:List Value},w.ownsRow B e s m n u->184≠e->(w.setCell ⟨g,i*7+4,none⟩ (.int .u64 v)).ownsRow B e s m n u:=fun l z=>ar l c (fun k D e=>by have a:k=g:=e;subst a;exact bh l j z D)
 refine⟨⟨.slice (some ⟨g,0,none⟩) n cap,o,r,t,?_⟩,c.below (by have:=h.row.lt;have:=h.hB;omega) (fun b hb=>by have e:b=g:=hb;omega)⟩;have f:=h.code;rw[show({S with code:=C}:gm).code=C from rfl,<-d]at f;have E:=hI (enc:=dg) f ej x 4 (by omega) rfl (v:=.int .u64 v) (y:={X with v:=v}) rfl d;refine⟨h.row.ch c (fun e=>by have a:p=g:=e;subst a;exact absurd (eD h.row j) (by decide)),h.hB,?_,h.ne,q h.labels (by decide),q h.lines (by decide),q h.bp (by decide)⟩;rw[show({S with code:=C.set i {X with v:=v}}:gm).code=C.set i {X with v:=v}from rfl,List.length_set,<-d];exact E
structure ss(k:Nat)(S:gm):Prop where
 c:S.code.length<=k
 l:S.labels.length<=k
 n:S.lines.length<=k
 w:S.bp.length<=3*k
 a0:0<=S.line
 a1:S.line<=k
theorem ss.more{k:Nat}{S S':gm}{d:List ByteArray}(h:ss k S)(a:ji S d=some S'):ss (k+1) S':=by
 have:=h.c;have:=h.l;have:=h.n;have:=h.w;have:=h.a0;have:=h.a1;cases d with
 |nil=>
  obtain rfl:=Option.some.inj a;exact⟨by show S.code.length<=_;omega,by show S.labels.length<=_;omega,by show S.lines.length<=_;omega,by show S.bp.length<=_;omega,by show 0<=S.line+1;omega,by show S.line+1<=_;omega⟩
 |cons w l=>
  unfold ji at a;dsimp only at a;cases c:lK S (w::l)with
  |none=>rw[c]at a;cases a
  |some b=>
   rw[c]at a;obtain rfl:=Option.some.inj a;obtain⟨a1,a2,a3,a4,e⟩:=jj c;exact⟨by show b.code.length<=_;omega,by show b.labels.length<=_;omega,by show b.lines.length<=_;omega,by show b.bp.length<=_;omega,by show 0<=b.line+1;omega,by show b.line+1<=_;omega⟩
theorem ss.mono{k a:Nat}{S:gm}(h:ss k S)(b:k<=a):ss a S:=by
 have:=h.c;have:=h.l;have:=h.n;have:=h.w;have:=h.a0;have:=h.a1;exact⟨by omega,by omega,by omega,by omega,by omega,by omega⟩
theorem below_drewN{B:Nat}{w w':World}(h:Below B w w')(n:Nat):Below B w (w'.drewN n):=⟨h.os,h.tape,h.output,h.size,h.block⟩
theorem mm{w:World}{g B n:Nat}{e:TypeId}{s:Nat}{a:List Value}(h:Row w g e a)(b:a.length=n*s)(d:n<=1000000000)(c:B<=g):w.ownsRow B e s (.slice (some ⟨g,0,none⟩) n n) n a:=
 ⟨b,Or.inr ⟨g,n,a.toArray,rfl,c,h,Nat.le_refl _,by unfold maxLen;omega,by simpa using b,by simp[<-b]⟩⟩
end Go.Proofs.YtlihkblppjgebaaGreatDoor
