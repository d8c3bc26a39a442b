/- The silent lines of AsmSilent. -/
import Derived.Test.YtnoejikcdigceaaDoorKeep2
set_option linter.unusedVariables false
set_option linter.unusedSimpArgs false
namespace Go.Proofs.YtnoejikcdigceaaDoor
open Go.RowKit
def silL : List ByteArray := [⟨#[]⟩, ⟨#[32, 32, 32]⟩, ⟨#[59, 32, 106, 109, 112, 32, 110, 111, 119, 104, 101, 114, 101]⟩, ⟨#[32, 32, 59]⟩, ⟨#[32, 59, 32, 120, 58, 32]⟩]
def silN : List ByteArray := [⟨#[10]⟩, ⟨#[32, 32, 32, 10]⟩, ⟨#[59, 32, 106, 109, 112, 32, 110, 111, 119, 104, 101, 114, 101, 10]⟩, ⟨#[32, 32, 59, 10]⟩, ⟨#[32, 59, 32, 120, 58, 32, 10]⟩]
def moreV : Nat → ByteArray
  | 0 => ⟨#[]⟩
  | k + 1 => moreV k ++ (silN[k]?).getD ⟨#[]⟩
theorem five {k : Nat} (h : k < 5) : k = 0 ∨ k = 1 ∨ k = 2 ∨ k = 3 ∨ k = 4 := by omega
theorem moreV_data (k : Nat) (h : k < 5) : (moreV k).data.toList = ((silL.take k).map (·.data.toList)).flatMap (fun s => s ++ [10]) := by
  rcases five h with rfl | rfl | rfl | rfl | rfl <;> simp [moreV, silN, silL]
theorem moreV_size (k : Nat) (h : k < 5) : (moreV k).size ≤ 40 := by
  rcases five h with rfl | rfl | rfl | rfl | rfl <;> simp [moreV, silN] <;> simp [ByteArray.size]
theorem silL_nl : ∀ s ∈ silL, (10 : UInt8) ∉ s.data.toList := by
  intro s hs
  simp [silL] at hs
  rcases hs with rfl | rfl | rfl | rfl | rfl <;> decide
theorem silL_words : ∀ s ∈ silL, wordsV s = [] := by
  intro s hs
  simp [silL] at hs
  rcases hs with rfl | rfl | rfl | rfl | rfl <;> kernel_rfl
theorem withinV_pos (v n : Int) (h : 1 ≤ n) : 0 ≤ withinV v n ∧ withinV v n < n := by
  unfold withinV
  have hr1 := Int.tmod_lt_of_pos v (show 0 < n by omega)
  have hr2 : -n < Int.tmod v n := by
    have := Int.tmod_lt_of_pos (-v) (show 0 < n by omega)
    rw [Int.neg_tmod] at this; omega
  split
  · omega
  · split <;> omega
end Go.Proofs.YtnoejikcdigceaaDoor
