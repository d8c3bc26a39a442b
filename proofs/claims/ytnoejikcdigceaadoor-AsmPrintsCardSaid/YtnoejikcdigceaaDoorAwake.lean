/- The law's own example: Parse of it, and awake. -/
import Derived.Test.YtnoejikcdigceaaDoorParse
set_option linter.unusedVariables false
set_option linter.unusedSimpArgs false
namespace Go.Proofs.YtnoejikcdigceaaDoor
open Go.RowKit
def awakeB : ByteArray := ⟨#[108, 111, 111, 112, 58, 10, 97, 100, 100, 32, 114, 49, 32, 114, 49, 32, 49, 32, 59, 32, 111, 110, 10, 106, 109, 112, 32, 108, 111, 111, 112, 10, 99, 97, 115, 32, 114, 49, 32, 91, 114, 50, 43, 51, 93, 32, 114, 52, 32, 33, 55, 61, 48]⟩
def awakeCode : List Ins := [⟨3, 1, 1, -1, 1, 0, 0⟩, ⟨12, 0, 0, 0, 0, 0, 0⟩, ⟨21, 1, 2, 4, 3, 7, 1⟩]
def awakeLabs : List (ByteArray × Int) := [(⟨#[108, 111, 111, 112]⟩, 0)]
theorem awake_parse : parseV awakeB = .ok (awakeCode, awakeLabs) := by kernel_rfl
/-- It says true, in new memory. -/
def RetT (w : World) (e : Ending) (w' : World) : Prop := e = .returned (.bool true) ∧ Below w.heap.size w w'
theorem awakeB_parse (m : Int) (w : World) (hm : w.cell? ⟨1, 0, none⟩ = some (.int .i64 m)) : Calls Tryd.prog 10 #[.string awakeB] w (Parsed (.ok (awakeCode, awakeLabs)) w) := by
  rw [← awake_parse]; exact parse_any awakeB (by decide) m w hm
set_option maxRecDepth 100000 in
set_option maxHeartbeats 4000000 in
theorem awake_any (m : Int) (w : World) (hm : w.cell? ⟨1, 0, none⟩ = some (.int .i64 m)) : Calls Tryd.prog 9 #[] w (RetT w) := by
  have HC := Lib.hid (awakeB_parse m w hm)
  clear hm
  go_enter Tryd.func9, Tryd.ntmps9
  go_wp2_with fail
  refine HC.out.mono ?_
  rintro e w1 ⟨vl, vb, rfl, hl, hb, hbel⟩
  obtain ⟨gl, cl, rfl⟩ := owns_some hl (by decide)
  obtain ⟨gb, cb, rfl⟩ := owns_some hb (by decide)
  have l0 : w1.cell? ⟨gl, 0, none⟩ = some (.int .i64 3) := owns_cell hl rfl
  have l3 : w1.cell? ⟨gl, 3, none⟩ = some (.int .i64 (-1)) := owns_cell hl rfl
  have l4 : w1.cell? ⟨gl, 4, none⟩ = some (.int .u64 1) := owns_cell hl rfl
  have l18 : w1.cell? ⟨gl, 18, none⟩ = some (.int .u64 3) := owns_cell hl rfl
  have l19 : w1.cell? ⟨gl, 19, none⟩ = some (.int .i64 7) := owns_cell hl rfl
  have l20 : w1.cell? ⟨gl, 20, none⟩ = some (.int .i64 1) := owns_cell hl rfl
  have b0 : w1.cell? ⟨gb, 0, none⟩ = some (.string ⟨#[108, 111, 111, 112]⟩) := owns_cell hb rfl
  have b1 : w1.cell? ⟨gb, 1, none⟩ = some (.int .i64 0) := owns_cell hb rfl
  have HB := Lib.hid hbel
  have e1 : awakeCode.length = 3 := rfl
  have e2 : awakeLabs.length = 1 := rfl
  rw [e1, e2]
  clear hl hb hbel e1 e2
  go_wp2
  go_ret
  exact ⟨rfl, HB.out⟩
end Go.Proofs.YtnoejikcdigceaaDoor
