/- distaffkeep.Within; distaffkeep.Code of like rows. distaffkeep.Code of like rows. The silent lines of AsmSilent. distaffkeep.Code at two rows of like instructions, also empty ones; labels' rows. -/
import Derived.Test.YtnoejikcdigceaaDoorAwake
import Derived.Test.YtnoejikcdigceaaDoorSilentC
set_option linter.unusedVariables false
set_option linter.unusedSimpArgs false
namespace Go.Proofs.YtnoejikcdigceaaDoor
open Go.RowKit
def withinV (v n : Int) : Int := if n < 1 then 0 else if Int.tmod v n < 0 then Int.tmod v n + n else Int.tmod v n
set_option maxRecDepth 100000 in
set_option maxHeartbeats 4000000 in
theorem within_any (v n : Int) (hn : n ≤ 1000000) (w : World) : Calls Tryd.prog 8 #[.int .i64 v, .int .i64 n] w (fun e w' => e = .returned (.int .i64 (withinV v n)) ∧ w = w') := by
  go_enter Tryd.func8, Tryd.ntmps8
  by_cases h1 : n < 1
  · have HV : Hid (withinV v n = 0) := by show _ = _; unfold withinV; rw [if_pos h1]
    go_wp2
    go_ret
    rw [HV.out]
    exact ⟨rfl, rfl⟩
  · have hn0 : ¬ n = 0 := by omega
    have hr1 := Int.tmod_lt_of_pos v (show 0 < n by omega)
    have hr2 : -n < Int.tmod v n := by
      have := Int.tmod_lt_of_pos (-v) (show 0 < n by omega)
      rw [Int.neg_tmod] at this; omega
    by_cases h2 : Int.tmod v n < 0
    · have HV : Hid (withinV v n = Int.tmod v n + n) := by show _ = _; unfold withinV; rw [if_neg h1, if_pos h2]
      go_wp2
      go_ret
      rw [HV.out]
      exact ⟨rfl, rfl⟩
    · have HV : Hid (withinV v n = Int.tmod v n) := by show _ = _; unfold withinV; rw [if_neg h1, if_neg h2]
      go_wp2
      go_ret
      rw [HV.out]
      exact ⟨rfl, rfl⟩
end Go.Proofs.YtnoejikcdigceaaDoor

set_option linter.unusedVariables false
set_option linter.unusedSimpArgs false
namespace Go.Proofs.YtnoejikcdigceaaDoor
open Go.RowKit
theorem flatIns_cells : ∀ (l : List Ins) (a : Nat) (X : Ins), l[a]? = some X → (flatIns l)[a * 7]? = some (.int .i64 X.op) ∧ (flatIns l)[a * 7 + 1]? = some (.int .i64 X.a) ∧ (flatIns l)[a * 7 + 2]? = some (.int .i64 X.b) ∧ (flatIns l)[a * 7 + 3]? = some (.int .i64 X.c) ∧ (flatIns l)[a * 7 + 4]? = some (.int .u64 X.v) ∧ (flatIns l)[a * 7 + 5]? = some (.int .i64 X.m) ∧ (flatIns l)[a * 7 + 6]? = some (.int .i64 X.wh)
  | [], a, X, h => by simp at h
  | Y :: l, 0, X, h => by
    have : Y = X := by simpa using h
    subst this; exact ⟨rfl, rfl, rfl, rfl, rfl, rfl, rfl⟩
  | Y :: l, a + 1, X, h => by
    obtain ⟨h0, h1, h2, h3, h4, h5, h6⟩ := flatIns_cells l a X (by simpa using h)
    have e : (insCells Y).toList.length = 7 := rfl
    rw [flatIns_cons]
    refine ⟨?_, ?_, ?_, ?_, ?_, ?_, ?_⟩ <;> rw [List.getElem?_append_right (by rw [e]; omega), e]
    · rw [show (a + 1) * 7 - 7 = a * 7 from by omega]; exact h0
    · rw [show (a + 1) * 7 + 1 - 7 = a * 7 + 1 from by omega]; exact h1
    · rw [show (a + 1) * 7 + 2 - 7 = a * 7 + 2 from by omega]; exact h2
    · rw [show (a + 1) * 7 + 3 - 7 = a * 7 + 3 from by omega]; exact h3
    · rw [show (a + 1) * 7 + 4 - 7 = a * 7 + 4 from by omega]; exact h4
    · rw [show (a + 1) * 7 + 5 - 7 = a * 7 + 5 from by omega]; exact h5
    · rw [show (a + 1) * 7 + 6 - 7 = a * 7 + 6 from by omega]; exact h6
theorem below_cell {B g i : Nat} {w w' : World} (h : Below B w w') (hg : g < B) : w'.cell? ⟨g, i, none⟩ = w.cell? ⟨g, i, none⟩ := by
  unfold World.cell?
  simp only [h.block g hg]
set_option maxRecDepth 100000 in
set_option maxHeartbeats 4000000 in
theorem code_same (g1 c1 g2 c2 : Nat) (code : List Ins) (hlen : code.length ≤ 1000000) (w : World) (hc1 : code.length ≤ c1) (hc2 : code.length ≤ c2) (hg1 : g1 < w.heap.size) (hg2 : g2 < w.heap.size)
    (h1 : ∀ j u, (flatIns code)[j]? = some u → w.cell? ⟨g1, j, none⟩ = some u) (h2 : ∀ j u, (flatIns code)[j]? = some u → w.cell? ⟨g2, j, none⟩ = some u) :
    Calls Tryd.prog 11 #[.slice (some ⟨g1, 0, none⟩) code.length c1, .slice (some ⟨g2, 0, none⟩) code.length c2] w (fun e w' => e = .returned (.bool true) ∧ Below w.heap.size w w') := by
  have H1 := Lib.hid h1
  have H2 := Lib.hid h2
  clear h1 h2
  obtain ⟨N, hN⟩ : ∃ N, code.length = N := ⟨_, rfl⟩
  rw [hN]
  have HN := Lib.hid hN
  rw [hN] at hlen hc1 hc2
  clear hN
  go_enter Tryd.func11, Tryd.ntmps11
  go_wp2
  go_loopw [5] (fun s wz => ∃ (k : Nat), k ≤ N ∧ s = .int .i64 k ∧ Below w.heap.size w wz) (fun s _ => N - (intOf s).toNat)
  case atStart => exact ⟨0, by omega, rfl, Below.refl _ _⟩
  case round =>
    obtain ⟨k, hk, rfl, hbel⟩ := hrel
    by_cases hkn : k < N
    · have hX : code[k]? = some (code[k]'(by rw [HN.out]; exact hkn)) := List.getElem?_eq_getElem _
      obtain ⟨X, hXX⟩ : ∃ X, X = code[k]'(by rw [HN.out]; exact hkn) := ⟨_, rfl⟩
      rw [← hXX] at hX
      obtain ⟨f0, f1, f2, f3, f4, f5, f6⟩ := flatIns_cells code k X hX
      have a0 := (below_cell hbel hg1).trans (H1.out _ _ f0)
      have a1 := (below_cell hbel hg1).trans (H1.out _ _ f1)
      have a2 := (below_cell hbel hg1).trans (H1.out _ _ f2)
      have a3 := (below_cell hbel hg1).trans (H1.out _ _ f3)
      have a4 := (below_cell hbel hg1).trans (H1.out _ _ f4)
      have a5 := (below_cell hbel hg1).trans (H1.out _ _ f5)
      have a6 := (below_cell hbel hg1).trans (H1.out _ _ f6)
      have b0 := (below_cell hbel hg2).trans (H2.out _ _ f0)
      have b1 := (below_cell hbel hg2).trans (H2.out _ _ f1)
      have b2 := (below_cell hbel hg2).trans (H2.out _ _ f2)
      have b3 := (below_cell hbel hg2).trans (H2.out _ _ f3)
      have b4 := (below_cell hbel hg2).trans (H2.out _ _ f4)
      have b5 := (below_cell hbel hg2).trans (H2.out _ _ f5)
      have b6 := (below_cell hbel hg2).trans (H2.out _ _ f6)
      have HB := Lib.hid hbel
      have hk3 : (k : Int) < (N : Int) := by omega
      clear hXX hX f0 f1 f2 f3 f4 f5 f6 hbel
      go_wp2_with fail
      go_quiet (fail)
      go_wp2
      go_roundw
      case rel => exact ⟨k + 1, by omega, by go_num, below_drewN HB.out _⟩
      case measure => simp [intOf]; omega
    · have hk3 : ¬ (k : Int) < (N : Int) := by omega
      have HB := Lib.hid hbel
      clear hbel
      go_wp2
      go_ret
      exact ⟨rfl, HB.out⟩
end Go.Proofs.YtnoejikcdigceaaDoor

set_option linter.unusedVariables false
set_option linter.unusedSimpArgs false
namespace Go.Proofs.YtnoejikcdigceaaDoor
open Go.RowKit
def silL : List ByteArray := [⟨#[]⟩, ⟨#[32, 32, 32]⟩, ⟨#[59, 32, 106, 109, 112, 32, 110, 111, 119, 104, 101, 114, 101]⟩, ⟨#[32, 32, 59]⟩, ⟨#[32, 59, 32, 120, 58, 32]⟩]
def silN : List ByteArray := [⟨#[10]⟩, ⟨#[32, 32, 32, 10]⟩, ⟨#[59, 32, 106, 109, 112, 32, 110, 111, 119, 104, 101, 114, 101, 10]⟩, ⟨#[32, 32, 59, 10]⟩, ⟨#[32, 59, 32, 120, 58, 32, 10]⟩]
def moreV : Nat → ByteArray
  | 0 => ⟨#[]⟩
  | k + 1 => moreV k ++ (silN[k]?).getD ⟨#[]⟩
theorem five {k : Nat} (h : k < 5) : k = 0 ∨ k = 1 ∨ k = 2 ∨ k = 3 ∨ k = 4 := by omega
theorem moreV_data (k : Nat) (h : k < 5) : (moreV k).data.toList = ((silL.take k).map (·.data.toList)).flatMap (fun s => s ++ [10]) := by
  rcases five h with rfl | rfl | rfl | rfl | rfl <;> simp [moreV, silN, silL]
theorem moreV_size (k : Nat) (h : k < 5) : (moreV k).size ≤ 40 := by
  rcases five h with rfl | rfl | rfl | rfl | rfl <;> simp [moreV, silN] <;> simp [ByteArray.size]
theorem silL_nl : ∀ s ∈ silL, (10 : UInt8) ∉ s.data.toList := by
  intro s hs
  simp [silL] at hs
  rcases hs with rfl | rfl | rfl | rfl | rfl <;> decide
theorem silL_words : ∀ s ∈ silL, wordsV s = [] := by
  intro s hs
  simp [silL] at hs
  rcases hs with rfl | rfl | rfl | rfl | rfl <;> kernel_rfl
theorem withinV_pos (v n : Int) (h : 1 ≤ n) : 0 ≤ withinV v n ∧ withinV v n < n := by
  unfold withinV
  have hr1 := Int.tmod_lt_of_pos v (show 0 < n by omega)
  have hr2 : -n < Int.tmod v n := by
    have := Int.tmod_lt_of_pos (-v) (show 0 < n by omega)
    rw [Int.neg_tmod] at this; omega
  split
  · omega
  · split <;> omega
end Go.Proofs.YtnoejikcdigceaaDoor

set_option linter.unusedVariables false
set_option linter.unusedSimpArgs false
namespace Go.Proofs.YtnoejikcdigceaaDoor
open Go.RowKit
set_option maxRecDepth 100000 in
set_option maxHeartbeats 4000000 in
theorem code_none (a1 a2 : Option Addr) (c1 c2 : Nat) (w : World) :
    Calls Tryd.prog 11 #[.slice a1 0 c1, .slice a2 0 c2] w (fun e w' => e = .returned (.bool true) ∧ Below w.heap.size w w') := by
  go_enter Tryd.func11, Tryd.ntmps11
  go_wp2
  refine wp_loop_rounds 1 ?_
  rw [rounds_succ]
  go_wp2
  go_ret
  exact ⟨rfl, Below.refl _ _⟩
theorem code_like (code : List Ins) (hlen : code.length ≤ 1000000) {B1 B2 : Nat} {v1 v2 : Value} (w : World) (h1 : w.ownsRow B1 37 7 v1 code.length (flatIns code)) (h2 : w.ownsRow B2 37 7 v2 code.length (flatIns code)) :
    Calls Tryd.prog 11 #[v1, v2] w (fun e w' => e = .returned (.bool true) ∧ Below w.heap.size w w') := by
  cases code with
  | nil =>
    obtain ⟨a1, c1, rfl⟩ := owns_slice h1
    obtain ⟨a2, c2, rfl⟩ := owns_slice h2
    exact code_none a1 a2 c1 c2 w
  | cons X l =>
    obtain ⟨g1, c1, rfl⟩ := owns_some h1 (by simp)
    obtain ⟨g2, c2, rfl⟩ := owns_some h2 (by simp)
    obtain ⟨_, _, hc1, _⟩ := owns_block h1
    obtain ⟨_, _, hc2, _⟩ := owns_block h2
    exact code_same g1 c1 g2 c2 (X :: l) hlen w hc1 hc2 (h1.lt g1 rfl).2 (h2.lt g2 rfl).2 (fun j u hj => owns_cell h1 hj) (fun j u hj => owns_cell h2 hj)
theorem moreV_step (i : Nat) : moreV (i + 1) = moreV i ++ (silN[i]?).getD ⟨#[]⟩ := rfl
theorem bytes_app {a b c : ByteArray} (h : a = b) : c ++ a = c ++ b := by rw [h]
end Go.Proofs.YtnoejikcdigceaaDoor
