/- Small words for the walks of package asm's functions: bytes of a text, what comes back. -/
import Derived.Test.YtnoejikcdigceaaDoorRows
import Derived.WalkKit
import Derived.WalkSpells
import Derived.WalkLawsBesides
import Derived.Lib.Hide
set_option linter.unusedVariables false
set_option linter.unusedSimpArgs false
namespace Go.Proofs.YtnoejikcdigceaaDoor
open Go.RowKit
theorem ret_pair {a a' b b' : Value} (h : a = a') (k : b = b') : Ending.returned (.tuple #[a, b]) = .returned (.tuple #[a', b']) := by rw [h, k]
theorem ret_ib {k : IntKind} {n : Int} {b : Bool} {p : Int × Bool} (h : p = (n, b)) : Ending.returned (.tuple #[.int k n, .bool b]) = .returned (.tuple #[.int k p.1, .bool p.2]) := by rw [h]

/-- A byte of a text, as a number; 0 beyond it. -/
def byteAt (s : ByteArray) (i : Nat) : Int := ((s.data.toList.getD i 0).toNat : Int)
theorem byteAt_of (s : ByteArray) (i : Nat) (h : i < s.size) : (s[i].toNat : Int) = byteAt s i := by
  unfold byteAt
  rw [List.getD_eq_getElem?_getD, List.getElem?_eq_getElem (by simpa using h)]
  rfl
theorem drop_cons (s : ByteArray) (k : Nat) (h : k < s.size) : s.data.toList.drop k = s[k] :: s.data.toList.drop (k + 1) := by
  rw [List.drop_eq_getElem_cons (by simpa using h)]; rfl
theorem drop_end (s : ByteArray) (k : Nat) (h : s.size ≤ k) : s.data.toList.drop k = [] := by
  rw [List.drop_eq_nil_iff]; simpa using h

/-- What comes back, the world as it was. (Plain definitions: the walk does not look behind them.) -/
def RetIB (k : IntKind) (p : Int × Bool) (w : World) (e : Ending) (w' : World) : Prop := e = .returned (.tuple #[.int k p.1, .bool p.2]) ∧ w = w'
theorem RetIB.mk {k : IntKind} {p : Int × Bool} {n : Int} {b : Bool} {w : World} (h : p = (n, b)) : RetIB k p w (.returned (.tuple #[.int k n, .bool b])) w := ⟨by rw [h], rfl⟩
def RetB (b : Bool) (w : World) (e : Ending) (w' : World) : Prop := e = .returned (.bool b) ∧ w = w'
theorem RetB.mk {b c : Bool} {w : World} (h : b = c) : RetB b w (.returned (.bool c)) w := ⟨by rw [h], rfl⟩
def RetI (k : IntKind) (n : Int) (w : World) (e : Ending) (w' : World) : Prop := e = .returned (.int k n) ∧ w = w'
theorem RetI.mk {k : IntKind} {n m : Int} {w : World} (h : n = m) : RetI k n w (.returned (.int k m)) w := ⟨by rw [h], rfl⟩
theorem byte_lo (b : UInt8) : 0 ≤ (b.toNat : Int) := Int.natCast_nonneg _
theorem byte_hi (b : UInt8) : (b.toNat : Int) ≤ 255 := by have := b.toNat_lt; omega
end Go.Proofs.YtnoejikcdigceaaDoor
