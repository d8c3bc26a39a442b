/- distaffkeep.Code at two rows of like instructions, also empty ones; labels' rows. -/
import Derived.Test.YtnoejikcdigceaaDoorSilentV
set_option linter.unusedVariables false
set_option linter.unusedSimpArgs false
namespace Go.Proofs.YtnoejikcdigceaaDoor
open Go.RowKit
set_option maxRecDepth 100000 in
set_option maxHeartbeats 4000000 in
theorem code_none (a1 a2 : Option Addr) (c1 c2 : Nat) (w : World) :
    Calls Tryd.prog 11 #[.slice a1 0 c1, .slice a2 0 c2] w (fun e w' => e = .returned (.bool true) ∧ Below w.heap.size w w') := by
  go_enter Tryd.func11, Tryd.ntmps11
  go_wp2
  refine wp_loop_rounds 1 ?_
  rw [rounds_succ]
  go_wp2
  go_ret
  exact ⟨rfl, Below.refl _ _⟩
theorem code_like (code : List Ins) (hlen : code.length ≤ 1000000) {B1 B2 : Nat} {v1 v2 : Value} (w : World) (h1 : w.ownsRow B1 37 7 v1 code.length (flatIns code)) (h2 : w.ownsRow B2 37 7 v2 code.length (flatIns code)) :
    Calls Tryd.prog 11 #[v1, v2] w (fun e w' => e = .returned (.bool true) ∧ Below w.heap.size w w') := by
  cases code with
  | nil =>
    obtain ⟨a1, c1, rfl⟩ := owns_slice h1
    obtain ⟨a2, c2, rfl⟩ := owns_slice h2
    exact code_none a1 a2 c1 c2 w
  | cons X l =>
    obtain ⟨g1, c1, rfl⟩ := owns_some h1 (by simp)
    obtain ⟨g2, c2, rfl⟩ := owns_some h2 (by simp)
    obtain ⟨_, _, hc1, _⟩ := owns_block h1
    obtain ⟨_, _, hc2, _⟩ := owns_block h2
    exact code_same g1 c1 g2 c2 (X :: l) hlen w hc1 hc2 (h1.lt g1 rfl).2 (h2.lt g2 rfl).2 (fun j u hj => owns_cell h1 hj) (fun j u hj => owns_cell h2 hj)
theorem moreV_step (i : Nat) : moreV (i + 1) = moreV i ++ (silN[i]?).getD ⟨#[]⟩ := rfl
theorem bytes_app {a b c : ByteArray} (h : a = b) : c ++ a = c ++ b := by rw [h]
end Go.Proofs.YtnoejikcdigceaaDoor
