/- distaffkeep.Within; distaffkeep.Code of like rows. -/
import Derived.Test.YtnoejikcdigceaaDoorAwake
import Derived.Test.YtnoejikcdigceaaDoorSilentC
set_option linter.unusedVariables false
set_option linter.unusedSimpArgs false
namespace Go.Proofs.YtnoejikcdigceaaDoor
open Go.RowKit
def withinV (v n : Int) : Int := if n < 1 then 0 else if Int.tmod v n < 0 then Int.tmod v n + n else Int.tmod v n
set_option maxRecDepth 100000 in
set_option maxHeartbeats 4000000 in
theorem within_any (v n : Int) (hn : n ≤ 1000000) (w : World) : Calls Tryd.prog 8 #[.int .i64 v, .int .i64 n] w (fun e w' => e = .returned (.int .i64 (withinV v n)) ∧ w = w') := by
  go_enter Tryd.func8, Tryd.ntmps8
  by_cases h1 : n < 1
  · have HV : Hid (withinV v n = 0) := by show _ = _; unfold withinV; rw [if_pos h1]
    go_wp2
    go_ret
    rw [HV.out]
    exact ⟨rfl, rfl⟩
  · have hn0 : ¬ n = 0 := by omega
    have hr1 := Int.tmod_lt_of_pos v (show 0 < n by omega)
    have hr2 : -n < Int.tmod v n := by
      have := Int.tmod_lt_of_pos (-v) (show 0 < n by omega)
      rw [Int.neg_tmod] at this; omega
    by_cases h2 : Int.tmod v n < 0
    · have HV : Hid (withinV v n = Int.tmod v n + n) := by show _ = _; unfold withinV; rw [if_neg h1, if_pos h2]
      go_wp2
      go_ret
      rw [HV.out]
      exact ⟨rfl, rfl⟩
    · have HV : Hid (withinV v n = Int.tmod v n) := by show _ = _; unfold withinV; rw [if_neg h1, if_neg h2]
      go_wp2
      go_ret
      rw [HV.out]
      exact ⟨rfl, rfl⟩
end Go.Proofs.YtnoejikcdigceaaDoor
