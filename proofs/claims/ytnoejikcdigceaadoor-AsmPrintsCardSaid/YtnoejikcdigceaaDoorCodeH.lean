/- distaffkeep.Code of two rows, wherever they lie; distaffref04.Of's place. -/
import Derived.Test.YtnoejikcdigceaaDoorGFind
import Derived.Test.YtnoejikcdigceaaDoorRefOf
import Derived.Test.YtnoejikcdigceaaDoorGPrint
set_option linter.unusedVariables false
set_option linter.unusedSimpArgs false
namespace Go.Proofs.YtnoejikcdigceaaDoor
open Go.RowKit
set_option maxRecDepth 100000 in
set_option maxHeartbeats 4000000 in
theorem code_gen2 (b o g2 o2 : Nat) (c1 c2 : Nat) (code : List Ins) (hlen : code.length ≤ 1000000) (w : World) (hc1 : code.length ≤ c1) (hc2 : code.length ≤ c2) (hg1 : b < w.heap.size) (hg2 : g2 < w.heap.size)
    (h1 : ∀ j u, (flatIns code)[j]? = some u → w.cell? ⟨b, o + j, none⟩ = some u) (h2 : ∀ j u, (flatIns code)[j]? = some u → w.cell? ⟨g2, o2 + j, none⟩ = some u) :
    Calls Tryd.prog 11 #[.slice (some ⟨b, o, none⟩) code.length c1, .slice (some ⟨g2, o2, none⟩) code.length c2] w (fun e w' => e = .returned (.bool true) ∧ Below w.heap.size w w') := by
  have H1 := Lib.hid h1
  have H2 := Lib.hid h2
  clear h1 h2
  obtain ⟨N, hN⟩ : ∃ N, code.length = N := ⟨_, rfl⟩
  rw [hN]
  have HN := Lib.hid hN
  rw [hN] at hlen hc1 hc2
  clear hN
  go_enter Tryd.func11, Tryd.ntmps11
  go_wp2
  go_loopw [5] (fun s wz => ∃ (k : Nat), k ≤ N ∧ s = .int .i64 k ∧ Below w.heap.size w wz) (fun s _ => N - (intOf s).toNat)
  case atStart => exact ⟨0, by omega, rfl, Below.refl _ _⟩
  case round =>
    obtain ⟨k, hk, rfl, hbel⟩ := hrel
    by_cases hkn : k < N
    · have hX : code[k]? = some (code[k]'(by rw [HN.out]; exact hkn)) := List.getElem?_eq_getElem _
      obtain ⟨X, hXX⟩ : ∃ X, X = code[k]'(by rw [HN.out]; exact hkn) := ⟨_, rfl⟩
      rw [← hXX] at hX
      obtain ⟨f0, f1, f2, f3, f4, f5, f6⟩ := flatIns_cells code k X hX
      have a0 := (below_cell hbel hg1).trans (H1.out _ _ f0)
      have a1 : wr.cell? ⟨b, o + k * 7 + 1, none⟩ = some (.int .i64 X.a) := by rw [Nat.add_assoc]; exact (below_cell hbel hg1).trans (H1.out _ _ f1)
      have a2 : wr.cell? ⟨b, o + k * 7 + 2, none⟩ = some (.int .i64 X.b) := by rw [Nat.add_assoc]; exact (below_cell hbel hg1).trans (H1.out _ _ f2)
      have a3 : wr.cell? ⟨b, o + k * 7 + 3, none⟩ = some (.int .i64 X.c) := by rw [Nat.add_assoc]; exact (below_cell hbel hg1).trans (H1.out _ _ f3)
      have a4 : wr.cell? ⟨b, o + k * 7 + 4, none⟩ = some (.int .u64 X.v) := by rw [Nat.add_assoc]; exact (below_cell hbel hg1).trans (H1.out _ _ f4)
      have a5 : wr.cell? ⟨b, o + k * 7 + 5, none⟩ = some (.int .i64 X.m) := by rw [Nat.add_assoc]; exact (below_cell hbel hg1).trans (H1.out _ _ f5)
      have a6 : wr.cell? ⟨b, o + k * 7 + 6, none⟩ = some (.int .i64 X.wh) := by rw [Nat.add_assoc]; exact (below_cell hbel hg1).trans (H1.out _ _ f6)
      have b0 := (below_cell hbel hg2).trans (H2.out _ _ f0)
      have b1 : wr.cell? ⟨g2, o2 + k * 7 + 1, none⟩ = some (.int .i64 X.a) := by rw [Nat.add_assoc]; exact (below_cell hbel hg2).trans (H2.out _ _ f1)
      have b2 : wr.cell? ⟨g2, o2 + k * 7 + 2, none⟩ = some (.int .i64 X.b) := by rw [Nat.add_assoc]; exact (below_cell hbel hg2).trans (H2.out _ _ f2)
      have b3 : wr.cell? ⟨g2, o2 + k * 7 + 3, none⟩ = some (.int .i64 X.c) := by rw [Nat.add_assoc]; exact (below_cell hbel hg2).trans (H2.out _ _ f3)
      have b4 : wr.cell? ⟨g2, o2 + k * 7 + 4, none⟩ = some (.int .u64 X.v) := by rw [Nat.add_assoc]; exact (below_cell hbel hg2).trans (H2.out _ _ f4)
      have b5 : wr.cell? ⟨g2, o2 + k * 7 + 5, none⟩ = some (.int .i64 X.m) := by rw [Nat.add_assoc]; exact (below_cell hbel hg2).trans (H2.out _ _ f5)
      have b6 : wr.cell? ⟨g2, o2 + k * 7 + 6, none⟩ = some (.int .i64 X.wh) := by rw [Nat.add_assoc]; exact (below_cell hbel hg2).trans (H2.out _ _ f6)
      have HB := Lib.hid hbel
      have hk3 : (k : Int) < (N : Int) := by omega
      clear hXX hX f0 f1 f2 f3 f4 f5 f6 hbel
      go_wp2_with fail
      go_quiet (fail)
      go_wp2
      go_roundw
      case rel => exact ⟨k + 1, by omega, by go_num, below_drewN HB.out _⟩
      case measure => simp [intOf]; omega
    · have hk3 : ¬ (k : Int) < (N : Int) := by omega
      have HB := Lib.hid hbel
      clear hbel
      go_wp2
      go_ret
      exact ⟨rfl, HB.out⟩
theorem ofV_places : ∀ o : Fin 58, (ofV ((o.val : Int) + 1)).2.2.2.2.2.2.1 = isJ ((o.val : Int) + 1) := by decide +kernel
theorem ofV_place (op : Int) (h : 1 ≤ op ∧ op ≤ 58) : (ofV op).2.2.2.2.2.2.1 = isJ op := by
  have := ofV_places ⟨(op - 1).toNat, by omega⟩
  have e : (((op - 1).toNat : Nat) : Int) + 1 = op := by omega
  simp only [e] at this
  exact this
end Go.Proofs.YtnoejikcdigceaaDoor
