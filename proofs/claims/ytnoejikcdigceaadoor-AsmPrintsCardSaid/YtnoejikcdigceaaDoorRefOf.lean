/- distaffref04.Of, Cell, reg: contracts. -/
import Derived.Test.YtnoejikcdigceaaDoorOpnds
set_option linter.unusedVariables false
set_option linter.unusedSimpArgs false
namespace Go.Proofs.YtnoejikcdigceaaDoor
open Go.RowKit
abbrev Of8 := Bool × Bool × Bool × Bool × Bool × Bool × Bool × Bool
/-- A, B, C, V, NoB, NoC, Place, Is. -/
def ofV (op : Int) : Of8 :=
  if op = 1 then (true, false, false, true, false, false, false, true)
  else if op = 2 ∨ op = 23 ∨ op = 49 ∨ op = 50 ∨ op = 47 ∨ op = 39 ∨ op = 54 then (true, true, false, false, false, false, false, true)
  else if op = 3 ∨ op = 4 ∨ op = 5 ∨ op = 6 ∨ op = 7 ∨ op = 8 ∨ op = 9 ∨ op = 10 ∨ op = 11 then (true, true, true, true, false, true, false, true)
  else if op = 12 ∨ op = 15 then (false, false, false, true, false, false, true, true)
  else if op = 13 ∨ op = 14 then (true, false, false, true, false, false, true, true)
  else if op = 16 ∨ op = 33 ∨ op = 55 ∨ op = 56 ∨ op = 58 then (false, false, false, false, false, false, false, true)
  else if op = 17 ∨ op = 18 ∨ op = 19 ∨ op = 20 ∨ op = 31 then (true, true, false, true, true, false, false, true)
  else if op = 21 ∨ op = 32 then (true, true, true, true, true, false, false, true)
  else if op = 22 then (false, false, false, true, false, false, false, true)
  else if op = 43 then (true, true, false, true, true, false, false, true)
  else if op = 45 then (true, true, false, true, false, false, false, true)
  else if op = 24 ∨ op = 25 ∨ op = 26 ∨ op = 27 ∨ op = 48 then (true, true, true, false, false, false, false, true)
  else if op = 28 ∨ op = 29 ∨ op = 30 ∨ op = 34 ∨ op = 35 ∨ op = 36 ∨ op = 37 ∨ op = 38 ∨ op = 40 ∨ op = 41 ∨ op = 42 ∨ op = 44 ∨ op = 46 ∨ op = 51 ∨ op = 52 ∨ op = 53 ∨ op = 57 then (true, false, false, false, false, false, false, true)
  else (false, false, false, false, false, false, false, false)
def of8 (p : Of8) : Value := .agg #[.bool p.1, .bool p.2.1, .bool p.2.2.1, .bool p.2.2.2.1, .bool p.2.2.2.2.1, .bool p.2.2.2.2.2.1, .bool p.2.2.2.2.2.2.1, .bool p.2.2.2.2.2.2.2]
def RetOf (p : Of8) (w : World) (e : Ending) (w' : World) : Prop := e = .returned (of8 p) ∧ Below w.heap.size w w'
theorem RetOf.mk {p : Of8} {a b c d x y z i : Bool} {w w' : World} (h : p = (a, b, c, d, x, y, z, i)) (hb : Below w.heap.size w w') : RetOf p w (.returned (.agg #[.bool a, .bool b, .bool c, .bool d, .bool x, .bool y, .bool z, .bool i])) w' := by subst h; exact ⟨rfl, hb⟩
set_option maxRecDepth 100000
set_option maxHeartbeats 16000000 in
theorem of_any (op : Int) (w : World) : Calls Tryd.prog 16 #[.int .i64 op] w (RetOf (ofV op) w) := by
  go_enter Tryd.func16, Tryd.ntmps16
  go_wp2
  all_goals
    simp only [beq_iff_eq, beq_eq_false_iff_ne, ne_eq] at *
    simp [bodyPost, results, Tryd.results16, go_sem]
    refine RetOf.mk ?_ ?_
    · unfold ofV
      repeat first
        | rfl
        | rw [if_pos (by omega)]
        | rw [if_neg (by omega)]
    · repeat first
        | exact Below.refl _ _
        | refine Below.alloc ?_ (by simp) _
        | refine Below.setCell ?_ (by simp) _
def cellOp (op : Int) : Bool := decide (op = 17 ∨ op = 18 ∨ op = 19 ∨ op = 20 ∨ op = 31 ∨ op = 21 ∨ op = 32)
set_option maxHeartbeats 4000000 in
theorem cellop_any (op : Int) (w : World) : Calls Tryd.prog 66 #[.int .i64 op] w (RetB (cellOp op) w) := by
  go_enter Tryd.func66, Tryd.ntmps66
  go_wp2
  all_goals
    go_ret
    simp only [beq_iff_eq, beq_eq_false_iff_ne, ne_eq] at *
    refine RetB.mk ?_
    unfold cellOp
    first
      | exact decide_eq_true (by omega)
      | exact decide_eq_false (by omega)
end Go.Proofs.YtnoejikcdigceaaDoor
