/- Cells of rows of structs, read and written. -/
import Derived.Test.YtnoejikcdigceaaDoorGLine
set_option linter.unusedVariables false
set_option linter.unusedSimpArgs false
namespace Go.Proofs.YtnoejikcdigceaaDoor
open Go.RowKit
theorem owns_block {w : World} {B : Nat} {e : TypeId} {size g n c : Nat} {xs : List Value} (h : w.ownsRow B e size (.slice (some ⟨g, 0, none⟩) n c) n xs) :
    ∃ cur : Array Value, w.heap[g]? = some (.cells cur e (0, 0)) ∧ n ≤ c ∧ c ≤ maxLen ∧ cur.size = c * size ∧ cur.toList.take (n * size) = xs ∧ B ≤ g ∧ xs.length = n * size := by
  rcases h.2 with ⟨h0, _⟩ | ⟨g', cap, cur, h0, hB, hg, hc, hm, hs, ht⟩
  · cases h0
  · injection h0 with h1 h2 h3
    injection h1 with h1
    injection h1 with h1 _ _
    subst h1; subst h3
    exact ⟨cur, hg, hc, hm, hs, ht, hB, h.1⟩
theorem owns_some {w : World} {B : Nat} {e : TypeId} {size n : Nat} {v : Value} {xs : List Value} (h : w.ownsRow B e size v n xs) (hn : 0 < n) : ∃ g c, v = .slice (some ⟨g, 0, none⟩) n c := by
  rcases h.2 with ⟨_, h0⟩ | ⟨g, cap, cur, rfl, _⟩
  · omega
  · exact ⟨g, cap, rfl⟩
theorem owns_cell {w : World} {B : Nat} {e : TypeId} {size g n c : Nat} {xs : List Value} (h : w.ownsRow B e size (.slice (some ⟨g, 0, none⟩) n c) n xs) {j : Nat} {u : Value} (hj : xs[j]? = some u) : w.cell? ⟨g, j, none⟩ = some u := by
  obtain ⟨cur, hg, hc, hm, hs, ht, _, hl⟩ := owns_block h
  rw [rowCell hg]
  rw [← ht, List.getElem?_take] at hj
  split at hj
  · simpa using hj
  · cases hj
theorem owns_free {w : World} {B : Nat} {e : TypeId} {size g n c : Nat} {xs : List Value} (h : w.ownsRow B e size (.slice (some ⟨g, 0, none⟩) n c) n xs) (j : Nat) : w.frozen? ⟨g, j, none⟩ = false := by
  obtain ⟨cur, hg, _⟩ := owns_block h
  exact rowFree hg
theorem owns_setCell {w : World} {B : Nat} {e : TypeId} {size g n c : Nat} {xs : List Value} (h : w.ownsRow B e size (.slice (some ⟨g, 0, none⟩) n c) n xs) {j : Nat} (hj : j < xs.length) (u : Value) :
    (w.setCell ⟨g, j, none⟩ u).ownsRow B e size (.slice (some ⟨g, 0, none⟩) n c) n (xs.set j u) := by
  obtain ⟨cur, hg, hc, hm, hs, ht, hB, hl⟩ := owns_block h
  refine ⟨by simpa using hl, Or.inr ⟨g, c, cur.setIfInBounds j u, rfl, hB, setCell_row hg, hc, hm, by simpa using hs, ?_⟩⟩
  rw [Array.toList_setIfInBounds, List.take_set, ht]
theorem flatIns_cons (X : Ins) (l : List Ins) : flatIns (X :: l) = (insCells X).toList ++ flatIns l := rfl
theorem flatIns_len (l : List Ins) : (flatIns l).length = 7 * l.length := by
  induction l with
  | nil => rfl
  | cons X l ih => rw [flatIns_cons, List.length_append, ih]; simp [insCells]; omega
theorem flatIns_v : ∀ (l : List Ins) (a : Nat) (X : Ins), l[a]? = some X → (flatIns l)[a * 7 + 4]? = some (.int .u64 X.v)
  | [], a, X, h => by simp at h
  | Y :: l, 0, X, h => by
    have : Y = X := by simpa using h
    subst this; rfl
  | Y :: l, a + 1, X, h => by
    rw [flatIns_cons, List.getElem?_append_right (by simp [insCells]; omega)]
    have := flatIns_v l a X (by simpa using h)
    rw [show (a + 1) * 7 + 4 - (insCells Y).toList.length = a * 7 + 4 from by simp [insCells]; omega]
    exact this
theorem flatIns_set : ∀ (l : List Ins) (a : Nat) (v : Int), a < l.length → (flatIns l).set (a * 7 + 4) (.int .u64 v) = flatIns (setV l a v)
  | [], a, v, h => by simp at h
  | Y :: l, 0, v, h => rfl
  | Y :: l, a + 1, v, h => by
    have ih := flatIns_set l a v (by simpa using h)
    unfold setV at ih ⊢
    rw [List.modify_succ_cons, flatIns_cons, flatIns_cons, ← ih, List.set_append_right _ _ (by simp [insCells]; omega)]
    congr 2
    simp [insCells]; omega
theorem setV_len (l : List Ins) (a : Nat) (v : Int) : (setV l a v).length = l.length := by simp [setV]
theorem flatWant_cells : ∀ (l : List (Int × Int × ByteArray)) (j : Nat) (x : Int × Int × ByteArray), l[j]? = some x → (flatWant l)[j * 3]? = some (.int .i64 x.1) ∧ (flatWant l)[j * 3 + 1]? = some (.int .i64 x.2.1) ∧ (flatWant l)[j * 3 + 2]? = some (.string x.2.2)
  | [], j, x, h => by simp at h
  | y :: l, 0, x, h => by
    have : y = x := by simpa using h
    subst this; exact ⟨rfl, rfl, rfl⟩
  | y :: l, j + 1, x, h => by
    obtain ⟨h1, h2, h3⟩ := flatWant_cells l j x (by simpa using h)
    have e : flatWant (y :: l) = [.int .i64 y.1, .int .i64 y.2.1, .string y.2.2] ++ flatWant l := rfl
    rw [e]
    refine ⟨?_, ?_, ?_⟩
    · rw [List.getElem?_append_right (by simp; omega), show (j + 1) * 3 - _ = j * 3 from by simp; omega]; exact h1
    · rw [List.getElem?_append_right (by simp; omega), show (j + 1) * 3 + 1 - _ = j * 3 + 1 from by simp; omega]; exact h2
    · rw [List.getElem?_append_right (by simp; omega), show (j + 1) * 3 + 2 - _ = j * 3 + 2 from by simp; omega]; exact h3
theorem flatLab_cells : ∀ (l : List (ByteArray × Int)) (j : Nat) (x : ByteArray × Int), l[j]? = some x → (flatLab l)[j * 2]? = some (.string x.1) ∧ (flatLab l)[j * 2 + 1]? = some (.int .i64 x.2)
  | [], j, x, h => by simp at h
  | y :: l, 0, x, h => by
    have : y = x := by simpa using h
    subst this; exact ⟨rfl, rfl⟩
  | y :: l, j + 1, x, h => by
    obtain ⟨h1, h2⟩ := flatLab_cells l j x (by simpa using h)
    have e : flatLab (y :: l) = [.string y.1, .int .i64 y.2] ++ flatLab l := rfl
    rw [e]
    refine ⟨?_, ?_⟩
    · rw [List.getElem?_append_right (by simp; omega), show (j + 1) * 2 - _ = j * 2 from by simp; omega]; exact h1
    · rw [List.getElem?_append_right (by simp; omega), show (j + 1) * 2 + 1 - _ = j * 2 + 1 from by simp; omega]; exact h2
theorem labFind_lt : ∀ (l : List (ByteArray × Int)) (nm : ByteArray) (i j : Nat), labFind l nm i = some j → i ≤ j ∧ j < i + l.length
  | [], nm, i, j, h => by simp [labFind] at h
  | b :: l, nm, i, j, h => by
    unfold labFind at h
    split at h
    · injection h with h; subst h; simp
    · have := labFind_lt l nm (i + 1) j h
      simp only [List.length_cons]; omega
end Go.Proofs.YtnoejikcdigceaaDoor
