import Derived.Shelf.Vars
import Derived.Test.YtlihkblppjgebaaGreatDoorZBu
set_option linter.all false
set_option maxRecDepth 100000
set_option maxHeartbeats 8000000
namespace Go.Proofs.YtlihkblppjgebaaGreatDoor
open Go.RowKit Go.Proofs.Tryz
section
open Go.ChangeAt Go.ChangeShapes Go.WideShapes
def Rh:List (String×DataW Unit):=[("unicode/utf8.acceptRanges",Rows.laid_unicode_utf8_acceptRanges),("errors.errorType",Rows.laid_errors_errorType),("unicode/utf8.first",Rows.laid_unicode_utf8_first)]
theorem It{W:World}(h:laidMetH prog Rh W):W.cell? ⟨0,0,none⟩=some (.iface 390 (.agg #[.pointer (some ⟨4,85,none⟩)])):=by
 have g:laidMet prog [("unicode/utf8.acceptRanges",Rows.laid_unicode_utf8_acceptRanges),("unicode/utf8.first",Rows.laid_unicode_utf8_first)] W/\handlesMet prog [("errors.errorType",Rows.laid_errors_errorType)] W:=h;obtain⟨name,u,ty,c,d,e,f,a⟩:=g.2 _ (List.mem_singleton.2 rfl);have en:name=[101,114,114,111,114]:=(Option.some.inj c).symm;subst en;obtain rfl:=Option.some.inj (De.rt.symm.trans d);have b:ty∈(List.range 446).filter fun t=>prog.rowNamed t [101,114,114,111,114]:=List.mem_filter.2 ⟨List.mem_range.2 (by rw[<-De.size];exact e),f⟩
 rw[De.Df]at b;obtain rfl:=List.mem_singleton.1 b;have i:typeHandle prog 85=.pointer (some ⟨4,85,none⟩):=by kernel_rfl
 rw[i]at a;simpa using World.var?_cell De.et a 0
noncomputable def Lg (os:Os):World:=
 let a:=World.doorLaid prog 60 os
 {a with heap:=a.heap.modify 2 fun
  |.cells _ t fr=> .cells (Pinned.utf8FirstZ.map fun z:Nat=>Value.int .u8 (z:Int)).toArray t fr
  |b=>b}
theorem PA(os:Os)(args:Array Value):laidMetH prog Rh ((Lg os).forCall (fun _ _=>0) ⟨#[],args,[]⟩).memory:=
 laidMetH_of_parts3 (fuel:=8) (laidMet_of_run' 8 (by kernel_rfl) (by kernel_rfl)) (by kernel_rfl) (by kernel_rfl)
theorem Km{W:World}(h:W.ShapedOpen prog):∃m,W.cell? ⟨1,0,none⟩=some (.int .i64 m):=
 Go.Proofs.cell_of_shapedOpen_int (zero:=#[.int .i64 0]) (t:=3) h (of_decide_eq_true (by kernel_rfl)) (by kernel_rfl) rfl (by kernel_rfl) (by kernel_rfl) underlying3
theorem open_ints{H:Type}{enc:TypeId×Value->H}{w:World}{base:Nat}{spare:Nat->Bool}{held:Bool}{v:Value}{d:DataW H}{p:List MemPlace}(h:DataW.Trod enc prog w base spare held 45 v d p)(m:v.cells.toList=[v]):∃l:List Int,iA w w.heap.size v 1 Pz l:=by
 obtain⟨fuel,c⟩:=h;rw[m]at c;obtain⟨l,b,-⟩:=lR (ec:=Pz) (k:=1) (Ok:=fun _=>True) underlying45 (by kernel_rfl) (by decide) (fun _=>rfl) (fun n cs x a b g=>by
  obtain⟨o,f,-,w2⟩:=DataW.trod_int underlying3 g;obtain⟨_,q,i⟩:=World.cells?_some b;subst f;refine⟨o,trivial,fun r u e=> ?_⟩;have j:r<1:=(List.getElem?_eq_some_iff.1 e).1;rw[i r j];exact e) c
 exact⟨l,b⟩
end
end Go.Proofs.YtlihkblppjgebaaGreatDoor
