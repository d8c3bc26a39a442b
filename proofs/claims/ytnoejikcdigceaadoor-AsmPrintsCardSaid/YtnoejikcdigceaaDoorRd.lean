/- A reader in memory. -/
import Derived.Test.YtnoejikcdigceaaDoorCellOf
set_option linter.unusedVariables false
set_option linter.unusedSimpArgs false
namespace Go.Proofs.YtnoejikcdigceaaDoor
open Go.RowKit
/-- What a reader has read. -/
structure RdSt where
  code : List Ins
  labels : List (ByteArray × Int)
  lines : List Int
  wants : List (Int × Int × ByteArray)
def flatIns (l : List Ins) : List Value := l.flatMap fun X => (insCells X).toList
def flatLab (l : List (ByteArray × Int)) : List Value := l.flatMap fun b => [.string b.1, .int .i64 b.2]
def flatInt (l : List Int) : List Value := l.map (Value.int .i64)
def flatWant (l : List (Int × Int × ByteArray)) : List Value := l.flatMap fun x => [.int .i64 x.1, .int .i64 x.2.1, .string x.2.2]
def mapEnts (l : List (ByteArray × Int)) : Array MapEntry := (l.zipIdx.map fun x => ({ key := .string x.1.1, val := .int .i64 x.2, born := x.2 } : MapEntry)).toArray
/-- The reader at block p, all of it from block B on; its code's row isn't block bx. -/
def RdAt (w : World) (B p bx : Nat) (st : RdSt) : Prop :=
  ∃ vl vb vn vw bm, w.heap[p]? = some (.cells #[vl, vb, vn, .map (some bm), vw] 60 (0, 0)) ∧ B ≤ p ∧
    w.ownsRow B 37 7 vl st.code.length (flatIns st.code) ∧ vl.ownBlock ≠ some bx ∧
    w.ownsRow B 33 2 vb st.labels.length (flatLab st.labels) ∧
    w.ownsRow B 3 1 vn st.lines.length (flatInt st.lines) ∧
    w.ownsRow B 64 3 vw st.wants.length (flatWant st.wants) ∧
    B ≤ bm ∧ w.heap[bm]? = some (.map (mapEnts st.labels) st.labels.length)
/-- Rows of texts, errors and lists of kinds stay. -/
def Keep (w w' : World) : Prop :=
  ∀ (k : Nat) (c : Array Value) (t : TypeId) (f : Nat × Nat), (t = 9 ∨ t = 72 ∨ t = 78) → w.heap[k]? = some (.cells c t f) → w'.heap[k]? = some (.cells c t f)
theorem Keep.refl (w : World) : Keep w w := fun _ _ _ _ _ h => h
theorem Keep.trans {a b c : World} (h : Keep a b) (g : Keep b c) : Keep a c := fun k x t f ht hk => g k x t f ht (h k x t f ht hk)
theorem row_type {w : World} {B : Nat} {e : TypeId} {size : Nat} {v : Value} {n : Nat} {xs : List Value} (h : w.ownsRow B e size v n xs) {k : Nat} {c : Array Value} {t : TypeId} {f : Nat × Nat} (hk : w.heap[k]? = some (.cells c t f)) (ht : t ≠ e) : v.ownBlock ≠ some k := by
  rcases h.2 with ⟨rfl, _⟩ | ⟨g, cap, cur, rfl, _, hg, _⟩
  · simp [Value.ownBlock]
  · intro hg2
    have : g = k := by simpa [Value.ownBlock] using hg2
    subst this
    rw [hg] at hk
    injection hk with hk
    injection hk with _ h2 _
    exact ht h2.symm
theorem row_map {w : World} {B : Nat} {e : TypeId} {size : Nat} {v : Value} {n : Nat} {xs : List Value} (h : w.ownsRow B e size v n xs) {k : Nat} {c : Array MapEntry} {t : Nat} (hk : w.heap[k]? = some (.map c t)) : v.ownBlock ≠ some k := by
  rcases h.2 with ⟨rfl, _⟩ | ⟨g, cap, cur, rfl, _, hg, _⟩
  · simp [Value.ownBlock]
  · intro hg2
    have : g = k := by simpa [Value.ownBlock] using hg2
    subst this
    rw [hg] at hk
    injection hk with hk
    cases hk
theorem keep_grown {w w' : World} {r : Option Nat} (hg : w.grownBy w' r) (hr : ∀ b, r = some b → ∀ c t f, w.heap[b]? = some (.cells c t f) → t ≠ 9 ∧ t ≠ 72 ∧ t ≠ 78) : Keep w w' := by
  intro k c t f ht hk
  rw [hg.block k (Array.getElem?_eq_some_iff.1 hk).1 (fun e => by
    have h3 := hr k e.symm c t f hk
    rcases ht with h | h | h
    · exact h3.1 h
    · exact h3.2.1 h
    · exact h3.2.2 h)]
  exact hk
/-- A write into an instruction of its own, and new blocks, leave the reader. -/
theorem RdAt.grown {w w' : World} {B p bx : Nat} {st : RdSt} (h : RdAt w B p bx st) {X : Ins} (hx : InsAt w bx X) (hg : w.grownBy w' (some bx)) : RdAt w' B p bx st := by
  obtain ⟨vl, vb, vn, vw, bm, hp, hB, hl, hne, hb, hn, hw, hbm, hm⟩ := h
  refine ⟨vl, vb, vn, vw, bm, ?_, hB, hl.kept hg (Or.inr hne), hne, hb.kept hg (Or.inr (row_type hb hx (by decide))), hn.kept hg (Or.inr (row_type hn hx (by decide))), hw.kept hg (Or.inr (row_type hw hx (by decide))), hbm, ?_⟩
  · rw [hg.block p (Array.getElem?_eq_some_iff.1 hp).1 (fun e => by
      injection e with e; subst e; unfold InsAt at hx; rw [hp] at hx; injection hx with hx; injection hx with _ h2 _; exact absurd h2 (by decide))]
    exact hp
  · rw [hg.block bm (Array.getElem?_eq_some_iff.1 hm).1 (fun e => by
      injection e with e; subst e; unfold InsAt at hx; rw [hm] at hx; injection hx with hx; cases hx)]
    exact hm
theorem keep_ins {w w' : World} {bx : Nat} {X : Ins} (hx : InsAt w bx X) (hg : w.grownBy w' (some bx)) : Keep w w' :=
  keep_grown hg fun b e c t f hb => by
    injection e with e; subst e; unfold InsAt at hx; rw [hx] at hb; injection hb with hb; injection hb with _ h2 _; subst h2; decide
theorem below_ins {w w' : World} {B bx : Nat} (hB : B ≤ bx) (hlt : bx < w.heap.size) (hg : w.grownBy w' (some bx)) : Below B w w' :=
  ⟨hg.os, hg.tape, hg.output, hg.size, fun k hk => hg.block k (by omega) (fun e => by injection e with e; omega)⟩
theorem ErrAt.mono {w : World} {lo lo' : Nat} {line : Int} {t : Bool} {v : Value} (h : ErrAt w lo line t v) (hl : lo' ≤ lo) : ErrAt w lo' line t v := by
  obtain ⟨b, i, h1, h2, h3, h4⟩ := h
  exact ⟨b, i, h1, by omega, h3, h4⟩

def setReg (X : Ins) (kind n : Int) : Ins := if kind = 1 then { X with a := n } else if kind = 2 ∨ kind = 5 then { X with b := n } else { X with c := n }
def opndX (X : Ins) (kind : Int) (s : ByteArray) : Except Bool Ins :=
  if kind = 6 then cellV X s
  else if kind ≤ 5 ∧ (regV s).2 then .ok (setReg X kind (regV s).1)
  else if kind ≤ 3 then .error true
  else numIn (if kind = 5 then { X with b := -1 } else if kind = 4 then { X with c := -1 } else X) (wparse s)
def withSt (st : RdSt) : Except Bool Ins → Except Bool (RdSt × Ins)
  | .ok X' => .ok (st, X')
  | .error t => .error t
/-- What reading an operand of a kind does. -/
def opndV (st : RdSt) (X : Ins) (kind : Int) (s : ByteArray) (line : Int) : Except Bool (RdSt × Ins) :=
  if 8 ≤ kind ∧ nameV s then .ok ({ st with wants := st.wants ++ [((st.code.length : Int), line, s)] }, X)
  else if kind = 8 then .error true
  else withSt st (opndX X kind s)
def OpndDone (r : Except Bool (RdSt × Ins)) (B p bx : Nat) (line : Int) (w : World) (e : Ending) (w' : World) : Prop :=
  match r with
  | .ok (st, X) => e = .returned .nilIface ∧ RdAt w' B p bx st ∧ InsAt w' bx X ∧ Below B w w' ∧ Keep w w'
  | .error t => ∃ v, e = .returned v ∧ ErrAt w' B line t v ∧ Below B w w'
/-- Out of an operand that leaves the reader. -/
theorem OpndDone.of {r : Except Bool Ins} {r' : Except Bool (RdSt × Ins)} {st : RdSt} {B p bx : Nat} {line : Int} {w : World} {X : Ins} {e : Ending} {w' : World}
    (h : OpDone r bx line w e w') (hr : r' = withSt st r) (hrd : RdAt w B p bx st) (hx : InsAt w bx X) (hB : B ≤ bx) : OpndDone r' B p bx line w e w' := by
  subst hr
  cases r with
  | ok X' => exact ⟨h.1, hrd.grown hx h.2.2, h.2.1, below_ins hB hx.lt h.2.2, keep_ins hx h.2.2⟩
  | error t =>
    obtain ⟨v, h1, h2, h3⟩ := h
    exact ⟨v, h1, h2.mono (by have := hx.lt; omega), below_ins hB hx.lt h3⟩
end Go.Proofs.YtnoejikcdigceaaDoor
