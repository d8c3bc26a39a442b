/- Rows of instructions that are made and written. -/
import Derived.Test.YtnoejikcdigceaaDoorPrintC
import Derived.Laws.MakeOwn
set_option linter.unusedVariables false
set_option linter.unusedSimpArgs false
namespace Go.Proofs.YtnoejikcdigceaaDoor
open Go.RowKit
def zI : Ins := ⟨0, 0, 0, 0, 0, 0, 0⟩
def zRow (n : Nat) : Array Value := (flatIns (List.replicate n zI)).toArray
theorem info37z : (Tryd.prog.info? 37).map (fun i => (i.zero, i.size, i.bytes)) = some (some (.agg (insCells zI)), 7, 56) := by kernel_rfl
theorem info4 : (Tryd.prog.info? 4).map (fun i => (i.zero, i.size, i.bytes)) = some (some (.bool false), 1, 1) := by kernel_rfl
theorem zRow_eq (n : Nat) : madeCells (Value.agg (insCells zI)).cells (n * 7) = zRow n := by
  apply Array.ext
  · simp [madeCells, zRow, flatIns_len]; omega
  · intro i h1 h2
    have hi : i < n * 7 := by simpa [madeCells] using h1
    have hX : (List.replicate n zI)[i / 7]? = some zI := by
      rw [List.getElem?_replicate, if_pos (by omega)]
    obtain ⟨f0, f1, f2, f3, f4, f5, f6⟩ := flatIns_cells _ _ _ hX
    have e : (zRow n)[i]? = some ((zRow n)[i]) := Array.getElem?_eq_getElem h2
    have e2 : (zRow n)[i]? = (flatIns (List.replicate n zI))[i]? := by unfold zRow; simp
    rw [e2] at e
    have hm : i % 7 = 0 ∨ i % 7 = 1 ∨ i % 7 = 2 ∨ i % 7 = 3 ∨ i % 7 = 4 ∨ i % 7 = 5 ∨ i % 7 = 6 := by omega
    have hd : i = i / 7 * 7 + i % 7 := by omega
    have key : (madeCells (Value.agg (insCells zI)).cells (n * 7))[i] = ((insCells zI)[i % 7]?).getD default := by
      simp [madeCells, Value.cells, insCells]
    rw [key]
    obtain ⟨x, hx⟩ : ∃ x, x = (zRow n)[i] := ⟨_, rfl⟩
    rw [← hx] at e ⊢
    clear hx key
    rcases hm with h | h | h | h | h | h | h <;> rw [h] at hd ⊢ <;> rw [hd] at e
    · rw [Nat.add_zero, f0] at e; exact Option.some.inj e
    · rw [f1] at e; exact Option.some.inj e
    · rw [f2] at e; exact Option.some.inj e
    · rw [f3] at e; exact Option.some.inj e
    · rw [f4] at e; exact Option.some.inj e
    · rw [f5] at e; exact Option.some.inj e
    · rw [f6] at e; exact Option.some.inj e
theorem make37 (N : Nat) (hN : N ≤ 2048) (W : World) : (Instr.makeSlice 25 (.int .i64 N) (.int .i64 N)).run Tryd.prog W = .ok (.slice (some ⟨W.heap.size, 0, none⟩) N N) (W.alloc (.cells (zRow N) 37)) := by
  obtain ⟨i, hi, h0, h1, h2⟩ := info_parts info37z
  rw [run_makeSlice W 25 37 i _ Tryd.underlying25 hi h0 .i64 .i64 N N (by omega) (by omega) (by rw [h1]; omega) (by rw [h2]; omega) (by omega), h1, Int.toNat_natCast, zRow_eq]
def bRow (l : List Bool) : Array Value := (l.map Value.bool).toArray
theorem bRow_eq (n : Nat) : madeCells (Value.bool false).cells (n * 1) = bRow (List.replicate n false) := by
  apply Array.ext
  · simp [madeCells, bRow]
  · intro i h1 h2
    have : i % 1 = 0 := Nat.mod_one i
    simp [madeCells, bRow, Value.cells, this]
theorem make74 (N : Nat) (hN : N ≤ 2048) (W : World) : (Instr.makeSlice 74 (.int .i64 N) (.int .i64 N)).run Tryd.prog W = .ok (.slice (some ⟨W.heap.size, 0, none⟩) N N) (W.alloc (.cells (bRow (List.replicate N false)) 4)) := by
  obtain ⟨i, hi, h0, h1, h2⟩ := info_parts info4
  rw [run_makeSlice W 74 4 i _ Tryd.underlying74 hi h0 .i64 .i64 N N (by omega) (by omega) (by rw [h1]; omega) (by rw [h2]; omega) (by omega), h1, Int.toNat_natCast, bRow_eq]
/-- A block is a row of instructions. -/
def RowB (w : World) (g : Nat) (L : List Ins) : Prop := w.heap[g]? = some (.cells (flatIns L).toArray 37 (0, 0))
theorem RowB.cell {w : World} {g : Nat} {L : List Ins} (h : RowB w g L) {j : Nat} {u : Value} (hj : (flatIns L)[j]? = some u) : w.cell? ⟨g, j, none⟩ = some u := by
  rw [rowCell h]; simpa using hj
theorem RowB.free {w : World} {g : Nat} {L : List Ins} (h : RowB w g L) (j : Nat) : w.frozen? ⟨g, j, none⟩ = false := rowFree h
theorem RowB.rowI {w : World} {g : Nat} {L : List Ins} (h : RowB w g L) : RowI w g L := ⟨(Array.getElem?_eq_some_iff.1 h).1, fun j u hj => h.cell hj⟩
theorem flatIns_set_op : ∀ (l : List Ins) (a : Nat) (v : Int), a < l.length → (flatIns l).set (a * 7) (.int .i64 v) = flatIns (l.modify a fun X => { X with op := v })
  | [], a, v, h => by simp at h
  | Y :: l, 0, v, h => rfl
  | Y :: l, a + 1, v, h => by
    have ih := flatIns_set_op l a v (by simpa using h)
    rw [List.modify_succ_cons, flatIns_cons, flatIns_cons, ← ih, List.set_append_right _ _ (by simp [insCells]; omega)]
    congr 2
    simp [insCells]; omega
theorem RowB.set_op {w : World} {g : Nat} {L : List Ins} (h : RowB w g L) (a : Nat) (v : Int) (ha : a < L.length) : RowB (w.setCell ⟨g, a * 7, none⟩ (.int .i64 v)) g (L.modify a fun X => { X with op := v }) := by
  unfold RowB at h ⊢
  rw [setCell_row h, ← flatIns_set_op L a v ha]
  simp
theorem RowB.other {w : World} {g k : Nat} {L : List Ins} (h : RowB w g L) (hk : g ≠ k) (i : Nat) (v : Value) : RowB (w.setCell ⟨k, i, none⟩ v) g L := by
  unfold RowB at h ⊢
  rw [setCell_block (by simpa using hk)]; exact h
/-- Seven cells are written. -/
def set7 (w : World) (g o : Nat) (X : Ins) : World :=
  ((((((w.setCell ⟨g, o, none⟩ (.int .i64 X.op)).setCell ⟨g, o + 1, none⟩ (.int .i64 X.a)).setCell ⟨g, o + 2, none⟩ (.int .i64 X.b)).setCell ⟨g, o + 3, none⟩ (.int .i64 X.c)).setCell ⟨g, o + 4, none⟩ (.int .u64 X.v)).setCell ⟨g, o + 5, none⟩ (.int .i64 X.m)).setCell ⟨g, o + 6, none⟩ (.int .i64 X.wh)
theorem flatIns_set7 : ∀ (l : List Ins) (a : Nat) (X : Ins), a < l.length →
    ((((((((flatIns l).set (a * 7) (.int .i64 X.op)).set (a * 7 + 1) (.int .i64 X.a)).set (a * 7 + 2) (.int .i64 X.b)).set (a * 7 + 3) (.int .i64 X.c)).set (a * 7 + 4) (.int .u64 X.v)).set (a * 7 + 5) (.int .i64 X.m)).set (a * 7 + 6) (.int .i64 X.wh)) = flatIns (l.set a X)
  | [], a, X, h => by simp at h
  | Y :: l, 0, X, h => rfl
  | Y :: l, a + 1, X, h => by
    have ih := flatIns_set7 l a X (by simpa using h)
    have e : (insCells Y).toList.length = 7 := rfl
    rw [List.set_cons_succ, flatIns_cons, flatIns_cons, ← ih]
    rw [List.set_append_right _ _ (by rw [e]; omega), List.set_append_right _ _ (by rw [e]; omega), List.set_append_right _ _ (by rw [e]; omega), List.set_append_right _ _ (by rw [e]; omega), List.set_append_right _ _ (by rw [e]; omega), List.set_append_right _ _ (by rw [e]; omega), List.set_append_right _ _ (by rw [e]; omega)]
    rw [e, show (a + 1) * 7 - 7 = a * 7 from by omega, show (a + 1) * 7 + 1 - 7 = a * 7 + 1 from by omega, show (a + 1) * 7 + 2 - 7 = a * 7 + 2 from by omega, show (a + 1) * 7 + 3 - 7 = a * 7 + 3 from by omega, show (a + 1) * 7 + 4 - 7 = a * 7 + 4 from by omega, show (a + 1) * 7 + 5 - 7 = a * 7 + 5 from by omega, show (a + 1) * 7 + 6 - 7 = a * 7 + 6 from by omega]
theorem RowB.set7 {w : World} {g : Nat} {L : List Ins} (h : RowB w g L) (a : Nat) (X : Ins) (ha : a < L.length) : RowB (set7 w g (a * 7) X) g (L.set a X) := by
  unfold RowB at h ⊢
  unfold YtnoejikcdigceaaDoor.set7
  rw [setCell_row (setCell_row (setCell_row (setCell_row (setCell_row (setCell_row (setCell_row h)))))), ← flatIns_set7 L a X ha]
  simp
theorem RowB.other7 {w : World} {g k : Nat} {L : List Ins} (h : RowB w g L) (hk : g ≠ k) (o : Nat) (X : Ins) : RowB (YtnoejikcdigceaaDoor.set7 w k o X) g L := by
  unfold YtnoejikcdigceaaDoor.set7
  exact ((((((h.other hk _ _).other hk _ _).other hk _ _).other hk _ _).other hk _ _).other hk _ _).other hk _ _
theorem RowB.below {w w' : World} {g : Nat} {L : List Ins} (h : RowB w g L) (hb : Below w.heap.size w w') : RowB w' g L := by
  unfold RowB at h ⊢
  rw [hb.block g (Array.getElem?_eq_some_iff.1 h).1]; exact h
theorem below_set7 {B g o : Nat} {w w' : World} (h : Below B w w') (hg : B ≤ g) (X : Ins) : Below B w (set7 w' g o X) := by
  unfold set7
  exact ((((((h.setCell (by simpa using hg) _).setCell (by simpa using hg) _).setCell (by simpa using hg) _).setCell (by simpa using hg) _).setCell (by simpa using hg) _).setCell (by simpa using hg) _).setCell (by simpa using hg) _
end Go.Proofs.YtnoejikcdigceaaDoor
