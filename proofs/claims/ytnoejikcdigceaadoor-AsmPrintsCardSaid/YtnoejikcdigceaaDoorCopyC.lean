/- distaffkeep.CopyCode: contract; asm.Find. -/
import Derived.Test.YtnoejikcdigceaaDoorRowW
import Derived.Laws.AppendOwn
set_option linter.unusedVariables false
set_option linter.unusedSimpArgs false
namespace Go.Proofs.YtnoejikcdigceaaDoor
open Go.RowKit
/-- A slice of instructions, wherever it lies. -/
def CodeArg (w : World) (v : Value) (l : List Ins) : Prop :=
  (v = .slice none 0 0 ∧ l = []) ∨ ∃ a c, v = .slice (some a) l.length c ∧ l.length ≤ c ∧ (l ≠ [] → a.block < w.heap.size) ∧ ∀ j u, (flatIns l)[j]? = some u → w.cell? (a.add j) = some u
theorem insCells_one (X : Ins) : ∀ u ∈ (insCells X).toList, u.oneCell' = true := by
  intro u hu
  simp [insCells] at hu
  rcases hu with rfl | rfl | rfl | rfl | rfl | rfl | rfl <;> rfl
theorem flatIns_one : ∀ l : List Ins, ∀ u ∈ flatIns l, u.oneCell' = true
  | [], u, h => by cases h
  | X :: l, u, h => by
    rw [flatIns_cons] at h
    rcases List.mem_append.1 h with h | h
    · exact insCells_one X u h
    · exact flatIns_one l u h
theorem copy_nil (W : World) : (Builtin.append_ #[25, 25] 25 #[.slice none 0 0, .slice none 0 0]).run Tryd.prog W = .ok (.slice none 0 0) W := by kernel_rfl
set_option maxRecDepth 100000 in
set_option maxHeartbeats 4000000 in
theorem copy_any (l : List Ins) (v : Value) (hl : l.length * 56 ≤ 140737488351232) (w : World) (hv : CodeArg w v l) :
    Calls Tryd.prog 15 #[v] w (fun e w' => ∃ v', e = .returned v' ∧ w'.ownsRow w.heap.size 37 7 v' l.length (flatIns l) ∧ Below w.heap.size w w') := by
  rcases hv with ⟨rfl, rfl⟩ | ⟨a, c, rfl, hc, hlt, hcell⟩
  · have hn := copy_nil
    go_enter Tryd.func15, Tryd.ntmps15
    go_wp2
    go_ret
    exact ⟨_, rfl, World.ownsRow_nil _ _ _ _, Below.refl _ _⟩
  · have HC := Lib.hid hcell
    obtain ⟨i0, hi, h0, h1, h2⟩ := info_parts info37z
    have HI := Lib.hid hi
    clear hcell hi
    go_enter Tryd.func15, Tryd.ntmps15
    go_wp2_with (at_builtin; refine wpList_append_own w rfl _ _ 25 rfl w.heap.size 37 i0 (.agg (insCells zI)) 7 56 Tryd.underlying25 HI.out h0 h1 h2 rfl (by decide) (.slice none 0 0) 0 [] rfl (World.ownsRow_nil _ _ _ _) a l.length c (flatIns l) rfl (by rw [flatIns_len]; omega) HC.out (flatIns_one l) (by unfold maxLen; omega) (by omega) (Nat.le_refl _) ?_; intro v' w' hown hgrow _)
    have HO := Lib.hid hown
    have HG := Lib.hid hgrow
    clear hown hgrow
    go_wp2
    go_ret
    refine ⟨_, rfl, by simpa using HO.out, ?_⟩
    have h := HG.out
    exact ⟨h.os, h.tape, h.output, h.size, fun k hk => h.block k hk (fun e => by cases e)⟩
end Go.Proofs.YtnoejikcdigceaaDoor
