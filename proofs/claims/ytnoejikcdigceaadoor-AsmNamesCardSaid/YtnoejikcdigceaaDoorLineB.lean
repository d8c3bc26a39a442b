/- What reader.line's walk wants: words in memory, the reader over new blocks, the labels' map. -/
import Derived.Test.YtnoejikcdigceaaDoorOpnd3
import Derived.Test.YtnoejikcdigceaaDoorOpM
import Derived.Laws.StructEq
import Derived.Test.YtnoejikcdigceaaDoorOpnds
set_option linter.unusedVariables false
set_option linter.unusedSimpArgs false
namespace Go.Proofs.YtnoejikcdigceaaDoor
open Go.RowKit
theorem wordsGo_size (t : ByteArray) : ∀ (f i a : Nat), i + f ≤ t.size + 1 → (∀ x ∈ wordsGo t f i a, 1 ≤ x.size ∧ x.size ≤ t.size) ∧ (wordsGo t f i a).length ≤ f
  | 0, _, _, _ => by simp [wordsGo]
  | f + 1, i, a, h => by
    obtain ⟨h1, h2⟩ := wordsGo_size t f (i + 1) a (by omega)
    obtain ⟨h3, h4⟩ := wordsGo_size t f (i + 1) (i + 1) (by omega)
    unfold wordsGo
    split
    · exact ⟨h1, by omega⟩
    · split
      · refine ⟨fun x hx => ?_, by simp; omega⟩
        rcases List.mem_cons.1 hx with rfl | hx
        · simp; omega
        · exact h3 x hx
      · exact ⟨h3, by omega⟩
theorem cutV_size (s : ByteArray) : (cutV s).size ≤ s.size := by
  unfold cutV; split
  · simp; omega
  · exact Nat.le_refl _
theorem wordsV_size (s : ByteArray) : (∀ x ∈ wordsV s, 1 ≤ x.size ∧ x.size ≤ s.size) ∧ (wordsV s).length ≤ s.size + 1 := by
  obtain ⟨h1, h2⟩ := wordsGo_size (cutV s) ((cutV s).size + 1) 0 0 (by omega)
  have hc := cutV_size s
  exact ⟨fun x hx => ⟨(h1 x hx).1, Nat.le_trans (h1 x hx).2 hc⟩, by unfold wordsV; omega⟩

/-- A row of texts. -/
def RowAt (w : World) (g : Nat) (ws : List ByteArray) : Prop :=
  ∃ cur : Array Value, w.heap[g]? = some (.cells cur 9 (0, 0)) ∧ ∀ (j : Nat) (x : ByteArray), ws[j]? = some x → cur[j]? = some (.string x)
theorem RowAt.keep {w w' : World} {g : Nat} {ws : List ByteArray} (h : RowAt w g ws) (k : Keep w w') : RowAt w' g ws := by
  obtain ⟨cur, h1, h2⟩ := h
  exact ⟨cur, k g cur 9 _ (Or.inl rfl) h1, h2⟩
theorem RowAt.cell {w : World} {g : Nat} {ws : List ByteArray} (h : RowAt w g ws) {j : Nat} {x : ByteArray} (hj : ws[j]? = some x) : w.cell? ⟨g, j, none⟩ = some (.string x) := by
  obtain ⟨cur, h1, h2⟩ := h
  rw [rowCell h1]; exact h2 j x hj
theorem RowAt.lt {w : World} {g : Nat} {ws : List ByteArray} (h : RowAt w g ws) : g < w.heap.size := by
  obtain ⟨cur, h1, _⟩ := h
  exact (Array.getElem?_eq_some_iff.1 h1).1
theorem RowAt.of_owns {w : World} {B : Nat} {v : Value} {ws : List ByteArray} (h : w.ownsRow B 9 1 v ws.length (ws.map Value.string)) (hne : ws ≠ []) :
    ∃ g cap, v = .slice (some ⟨g, 0, none⟩) ws.length cap ∧ B ≤ g ∧ ws.length ≤ cap ∧ cap ≤ maxLen ∧ RowAt w g ws := by
  rcases h.2 with ⟨_, h0⟩ | ⟨g, cap, cur, rfl, hB, hg, hc, hm, hs, ht⟩
  · exact absurd (List.eq_nil_of_length_eq_zero h0) hne
  · refine ⟨g, cap, rfl, hB, hc, hm, cur, hg, fun j x hj => ?_⟩
    have h1 : (ws.map Value.string)[j]? = some (.string x) := by simp [hj]
    rw [← ht] at h1
    rw [List.getElem?_take] at h1
    split at h1
    · simpa using h1
    · cases h1
theorem keep_below {w w' : World} (h : Below w.heap.size w w') : Keep w w' := by
  intro k c t f _ hk
  rw [h.block k (Array.getElem?_eq_some_iff.1 hk).1]; exact hk
theorem owns_below {w w' : World} {B : Nat} {e : TypeId} {size : Nat} {v : Value} {n : Nat} {xs : List Value} (h : w.ownsRow B e size v n xs) (hb : Below w.heap.size w w') : w'.ownsRow B e size v n xs :=
  h.kept (row := none) ⟨hb.os, hb.tape, hb.output, hb.size, fun k hk _ => hb.block k hk⟩ (by cases v.ownBlock <;> simp)
/-- New blocks leave the reader. -/
theorem RdAt.below {w w' : World} {B p bx : Nat} {st : RdSt} (h : RdAt w B p bx st) (hb : Below w.heap.size w w') : RdAt w' B p bx st := by
  obtain ⟨vl, vb, vn, vw, bm, hp, hB, hl, hne, hb', hn, hw, hbm, hm⟩ := h
  exact ⟨vl, vb, vn, vw, bm, by rw [hb.block p (Array.getElem?_eq_some_iff.1 hp).1]; exact hp, hB, owns_below hl hb, hne, owns_below hb' hb, owns_below hn hb, owns_below hw hb, hbm,
    by rw [hb.block bm (Array.getElem?_eq_some_iff.1 hm).1]; exact hm⟩
/-- The code's row lies below every new block. -/
theorem RdAt.fresh {w : World} {B p bx : Nat} {st : RdSt} (h : RdAt w B p bx st) (k : Nat) (hk : w.heap.size ≤ k) : RdAt w B p k st := by
  obtain ⟨vl, vb, vn, vw, bm, hp, hB, hl, hne, rest⟩ := h
  refine ⟨vl, vb, vn, vw, bm, hp, hB, hl, fun e => ?_, rest⟩
  have := (hl.lt k e).2
  omega
/-- Where a name stands in the list of labels. -/
def labFind : List (ByteArray × Int) → ByteArray → Nat → Option Nat
  | [], _, _ => none
  | b :: l, nm, i => if b.1 = nm then some i else labFind l nm (i + 1)
def mapEnt (x : (ByteArray × Int) × Nat) : MapEntry := { key := .string x.1.1, val := .int .i64 x.2, born := x.2 }
theorem bytes_beq' (a b : ByteArray) : (a == b) = true ↔ a = b := by
  rw [beq_toListBytes, beq_iff_eq, ByteArray.toList_eq, ByteArray.toList_eq]
  exact ⟨fun h => ByteArray.ext (Array.ext' h), fun h => by rw [h]⟩
theorem findNow_lab (nm : ByteArray) : ∀ (l : List (ByteArray × Int)) (i : Nat), Instr.findNow .string (.string nm) ((l.zipIdx i).map mapEnt) i = some ((labFind l nm i).map fun (j : Nat) => (j, Value.int .i64 (j : Int)))
  | [], _ => rfl
  | b :: l, i => by
    have ih := findNow_lab nm l (i + 1)
    simp only [List.zipIdx_cons, List.map_cons, Instr.findNow, mapEnt, Instr.sameNow, labFind]
    by_cases h : b.1 = nm
    · have h' : (nm == b.1) = true := (bytes_beq' nm b.1).2 h.symm
      rw [h', if_pos h]; rfl
    · have h' : (nm == b.1) = false := by
        rw [Bool.eq_false_iff]; intro e; exact h ((bytes_beq' nm b.1).1 e).symm
      rw [h', if_neg h]
      exact ih
theorem mapEnts_list (l : List (ByteArray × Int)) : (mapEnts l).toList = (l.zipIdx 0).map mapEnt := rfl
def foundV : Option Nat → Value
  | some j => .tuple #[.int .i64 j, .bool true]
  | none => .tuple #[.int .i64 0, .bool false]
theorem lookup_lab (w : World) (bm : Nat) (l : List (ByteArray × Int)) (n : Nat) (nm : ByteArray) (hm : w.heap[bm]? = some (.map (mapEnts l) n)) :
    (Instr.lookup 56 (.map (some bm)) (.string nm) true).run Tryd.prog w = .ok (foundV (labFind l nm 0)) w := by
  have hf : Instr.findNow .string (.string nm) (mapEnts l).toList 0 = some ((labFind l nm 0).map fun (j : Nat) => (j, Value.int .i64 (j : Int))) := findNow_lab nm l 0
  have hk : ∀ b w, (Instr.checkKey b 10000 9 (.string nm)).run Tryd.prog w = .ok () w := fun b w => by
    unfold Instr.checkKey
    simp [run_underlying Tryd.underlying9]
  have hz : (zeroValue 3).run Tryd.prog w = .ok (.int .i64 0) w := by kernel_rfl
  unfold Instr.lookup Instr.findKey
  simp only [go_sem, run_underlying Tryd.underlying56, run_underlying Tryd.underlying9, Sem.run_bind, Result.andThen_ok, getObj, Sem.run, hm, hk]
  simp only [Sem.run_pure, Result.andThen_ok, hf]
  cases labFind l nm 0 <;> simp [foundV, hz, go_sem]
end Go.Proofs.YtnoejikcdigceaaDoor
