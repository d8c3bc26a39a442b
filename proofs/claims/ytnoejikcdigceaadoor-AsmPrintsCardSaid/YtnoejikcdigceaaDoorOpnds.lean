/- asm.operands: contract. -/
import Derived.Test.YtnoejikcdigceaaDoorFields
set_option linter.unusedVariables false
set_option linter.unusedSimpArgs false
namespace Go.Proofs.YtnoejikcdigceaaDoor
open Go.RowKit
def opndsD : Bool × Bool × Bool × Bool → Int × Int × Int
  | (true, true, true, true) => (1, 2, 4)
  | (true, true, true, false) => (1, 2, 3)
  | (true, true, false, _) => (1, 2, 0)
  | (true, false, true, true) => (1, 4, 0)
  | (true, false, true, false) => (1, 3, 0)
  | (true, false, false, _) => (1, 0, 0)
  | (false, true, true, true) => (2, 4, 0)
  | (false, true, true, false) => (2, 3, 0)
  | (false, true, false, _) => (2, 0, 0)
  | (false, false, true, true) => (4, 0, 0)
  | (false, false, true, false) => (3, 0, 0)
  | (false, false, false, _) => (0, 0, 0)
/-- The kinds of an operation's operands (0: none; 1 A, 2 B, 3 C, 4 C or number, 5 B or number, 6 cell, 7 number, 8 place, 9 number or place). -/
def opndsV (op : Int) : Int × Int × Int :=
  if op = 1 then (1, 9, 0)
  else if op = 13 ∨ op = 14 then (1, 8, 0)
  else if op = 12 ∨ op = 15 then (8, 0, 0)
  else if op = 22 then (7, 0, 0)
  else if op = 43 then (1, 5, 0)
  else if op = 45 then (1, 2, 7)
  else if op = 21 ∨ op = 32 then (1, 6, 3)
  else if op = 17 ∨ op = 18 ∨ op = 19 ∨ op = 20 ∨ op = 31 then (1, 6, 0)
  else opndsD (fieldsV op)
def RetO (p : Int × Int × Int) (w : World) (e : Ending) (w' : World) : Prop :=
  e = .returned (.agg #[.int .i64 p.1, .int .i64 p.2.1, .int .i64 p.2.2]) ∧ Below w.heap.size w w'
theorem RetO.mk {p : Int × Int × Int} {a b c : Int} {w w' : World} (h : p = (a, b, c)) (hb : Below w.heap.size w w') : RetO p w (.returned (.agg #[.int .i64 a, .int .i64 b, .int .i64 c])) w' := by subst h; exact ⟨rfl, hb⟩
def opndsSpecial (op : Int) : Bool := decide (op = 1 ∨ op = 13 ∨ op = 14 ∨ op = 12 ∨ op = 15 ∨ op = 22 ∨ op = 43 ∨ op = 45 ∨ op = 21 ∨ op = 32 ∨ op = 17 ∨ op = 18 ∨ op = 19 ∨ op = 20 ∨ op = 31)
set_option maxRecDepth 100000
set_option maxHeartbeats 8000000
theorem operands_any (op : Int) (w : World) : Calls Tryd.prog 27 #[.int .i64 op] w (RetO (opndsV op) w) := by
  go_enter Tryd.func27, Tryd.ntmps27
  go_wp2_with (go_at_call 46; refine (fields_any _ _).mono ?_; rintro e w' ⟨rfl, rfl⟩)
  all_goals
    simp only [beq_iff_eq, beq_eq_false_iff_ne, ne_eq] at *
    simp [bodyPost, results, Tryd.results27, go_sem]
    refine RetO.mk ?_ ?_
    · unfold opndsV
      repeat first
        | rfl
        | rw [if_pos (by omega)]
        | rw [if_neg (by omega)]
      try (generalize fieldsV op = q at *; obtain ⟨a, b, c, d⟩ := q; simp_all [opndsD]; done)
    · repeat first
        | exact Below.refl _ _
        | refine Below.alloc ?_ (by simp) _
end Go.Proofs.YtnoejikcdigceaaDoor
