/- distaffkeep.Code of like rows. -/
import Derived.Test.YtnoejikcdigceaaDoorKeep
set_option linter.unusedVariables false
set_option linter.unusedSimpArgs false
namespace Go.Proofs.YtnoejikcdigceaaDoor
open Go.RowKit
theorem flatIns_cells : ∀ (l : List Ins) (a : Nat) (X : Ins), l[a]? = some X → (flatIns l)[a * 7]? = some (.int .i64 X.op) ∧ (flatIns l)[a * 7 + 1]? = some (.int .i64 X.a) ∧ (flatIns l)[a * 7 + 2]? = some (.int .i64 X.b) ∧ (flatIns l)[a * 7 + 3]? = some (.int .i64 X.c) ∧ (flatIns l)[a * 7 + 4]? = some (.int .u64 X.v) ∧ (flatIns l)[a * 7 + 5]? = some (.int .i64 X.m) ∧ (flatIns l)[a * 7 + 6]? = some (.int .i64 X.wh)
  | [], a, X, h => by simp at h
  | Y :: l, 0, X, h => by
    have : Y = X := by simpa using h
    subst this; exact ⟨rfl, rfl, rfl, rfl, rfl, rfl, rfl⟩
  | Y :: l, a + 1, X, h => by
    obtain ⟨h0, h1, h2, h3, h4, h5, h6⟩ := flatIns_cells l a X (by simpa using h)
    have e : (insCells Y).toList.length = 7 := rfl
    rw [flatIns_cons]
    refine ⟨?_, ?_, ?_, ?_, ?_, ?_, ?_⟩ <;> rw [List.getElem?_append_right (by rw [e]; omega), e]
    · rw [show (a + 1) * 7 - 7 = a * 7 from by omega]; exact h0
    · rw [show (a + 1) * 7 + 1 - 7 = a * 7 + 1 from by omega]; exact h1
    · rw [show (a + 1) * 7 + 2 - 7 = a * 7 + 2 from by omega]; exact h2
    · rw [show (a + 1) * 7 + 3 - 7 = a * 7 + 3 from by omega]; exact h3
    · rw [show (a + 1) * 7 + 4 - 7 = a * 7 + 4 from by omega]; exact h4
    · rw [show (a + 1) * 7 + 5 - 7 = a * 7 + 5 from by omega]; exact h5
    · rw [show (a + 1) * 7 + 6 - 7 = a * 7 + 6 from by omega]; exact h6
theorem below_cell {B g i : Nat} {w w' : World} (h : Below B w w') (hg : g < B) : w'.cell? ⟨g, i, none⟩ = w.cell? ⟨g, i, none⟩ := by
  unfold World.cell?
  simp only [h.block g hg]
set_option maxRecDepth 100000 in
set_option maxHeartbeats 4000000 in
theorem code_same (g1 c1 g2 c2 : Nat) (code : List Ins) (hlen : code.length ≤ 1000000) (w : World) (hc1 : code.length ≤ c1) (hc2 : code.length ≤ c2) (hg1 : g1 < w.heap.size) (hg2 : g2 < w.heap.size)
    (h1 : ∀ j u, (flatIns code)[j]? = some u → w.cell? ⟨g1, j, none⟩ = some u) (h2 : ∀ j u, (flatIns code)[j]? = some u → w.cell? ⟨g2, j, none⟩ = some u) :
    Calls Tryd.prog 11 #[.slice (some ⟨g1, 0, none⟩) code.length c1, .slice (some ⟨g2, 0, none⟩) code.length c2] w (fun e w' => e = .returned (.bool true) ∧ Below w.heap.size w w') := by
  have H1 := Lib.hid h1
  have H2 := Lib.hid h2
  clear h1 h2
  obtain ⟨N, hN⟩ : ∃ N, code.length = N := ⟨_, rfl⟩
  rw [hN]
  have HN := Lib.hid hN
  rw [hN] at hlen hc1 hc2
  clear hN
  go_enter Tryd.func11, Tryd.ntmps11
  go_wp2
  go_loopw [5] (fun s wz => ∃ (k : Nat), k ≤ N ∧ s = .int .i64 k ∧ Below w.heap.size w wz) (fun s _ => N - (intOf s).toNat)
  case atStart => exact ⟨0, by omega, rfl, Below.refl _ _⟩
  case round =>
    obtain ⟨k, hk, rfl, hbel⟩ := hrel
    by_cases hkn : k < N
    · have hX : code[k]? = some (code[k]'(by rw [HN.out]; exact hkn)) := List.getElem?_eq_getElem _
      obtain ⟨X, hXX⟩ : ∃ X, X = code[k]'(by rw [HN.out]; exact hkn) := ⟨_, rfl⟩
      rw [← hXX] at hX
      obtain ⟨f0, f1, f2, f3, f4, f5, f6⟩ := flatIns_cells code k X hX
      have a0 := (below_cell hbel hg1).trans (H1.out _ _ f0)
      have a1 := (below_cell hbel hg1).trans (H1.out _ _ f1)
      have a2 := (below_cell hbel hg1).trans (H1.out _ _ f2)
      have a3 := (below_cell hbel hg1).trans (H1.out _ _ f3)
      have a4 := (below_cell hbel hg1).trans (H1.out _ _ f4)
      have a5 := (below_cell hbel hg1).trans (H1.out _ _ f5)
      have a6 := (below_cell hbel hg1).trans (H1.out _ _ f6)
      have b0 := (below_cell hbel hg2).trans (H2.out _ _ f0)
      have b1 := (below_cell hbel hg2).trans (H2.out _ _ f1)
      have b2 := (below_cell hbel hg2).trans (H2.out _ _ f2)
      have b3 := (below_cell hbel hg2).trans (H2.out _ _ f3)
      have b4 := (below_cell hbel hg2).trans (H2.out _ _ f4)
      have b5 := (below_cell hbel hg2).trans (H2.out _ _ f5)
      have b6 := (below_cell hbel hg2).trans (H2.out _ _ f6)
      have HB := Lib.hid hbel
      have hk3 : (k : Int) < (N : Int) := by omega
      clear hXX hX f0 f1 f2 f3 f4 f5 f6 hbel
      go_wp2_with fail
      go_quiet (fail)
      go_wp2
      go_roundw
      case rel => exact ⟨k + 1, by omega, by go_num, below_drewN HB.out _⟩
      case measure => simp [intOf]; omega
    · have hk3 : ¬ (k : Int) < (N : Int) := by omega
      have HB := Lib.hid hbel
      clear hbel
      go_wp2
      go_ret
      exact ⟨rfl, HB.out⟩
end Go.Proofs.YtnoejikcdigceaaDoor
