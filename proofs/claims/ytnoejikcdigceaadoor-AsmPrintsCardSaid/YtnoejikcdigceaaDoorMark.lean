/- An instruction in memory; what may have been written. -/
import Derived.Test.YtnoejikcdigceaaDoorNamed
import Derived.Test.YtnoejikcdigceaaDoorShelf
set_option linter.unusedVariables false
set_option linter.unusedSimpArgs false
namespace Go.Proofs.YtnoejikcdigceaaDoor
open Go.RowKit
structure Ins where
  op : Int
  a : Int
  b : Int
  c : Int
  v : Int
  m : Int
  wh : Int
def insCells (X : Ins) : Array Value := #[.int .i64 X.op, .int .i64 X.a, .int .i64 X.b, .int .i64 X.c, .int .u64 X.v, .int .i64 X.m, .int .i64 X.wh]
def InsAt (w : World) (b : Nat) (X : Ins) : Prop := w.heap[b]? = some (.cells (insCells X) 37 (0, 0))
theorem InsAt.lt {w : World} {b : Nat} {X : Ins} (h : InsAt w b X) : b < w.heap.size := (Array.getElem?_eq_some_iff.1 h).1
theorem InsAt.cell {w : World} {b : Nat} {X : Ins} (h : InsAt w b X) (i : Nat) : w.cell? ⟨b, i, none⟩ = (insCells X)[i]? := cell_of_row w b i _ _ _ h
theorem InsAt.free {w : World} {b : Nat} {X : Ins} (h : InsAt w b X) (i : Nat) : w.frozen? ⟨b, i, none⟩ = false := by
  unfold World.frozen?; unfold InsAt at h; simp only [h]; simp
theorem setCell_row {w : World} {b i : Nat} {c : Array Value} {t : TypeId} {f : Nat × Nat} {v : Value} (h : w.heap[b]? = some (.cells c t f)) : (w.setCell ⟨b, i, none⟩ v).heap[b]? = some (.cells (c.setIfInBounds i v) t f) := by
  simp [World.setCell, Array.getElem?_modify, h]
theorem setCell_block {w : World} {a : Addr} {v : Value} {k : Nat} (h : k ≠ a.block) : (w.setCell a v).heap[k]? = w.heap[k]? := Below.heap_setCell _ _ _ _ h
theorem InsAt.set_a {w : World} {b : Nat} {X : Ins} (h : InsAt w b X) (n : Int) : InsAt (w.setCell ⟨b, 1, none⟩ (.int .i64 n)) b { X with a := n } := setCell_row h
theorem InsAt.set_b {w : World} {b : Nat} {X : Ins} (h : InsAt w b X) (n : Int) : InsAt (w.setCell ⟨b, 2, none⟩ (.int .i64 n)) b { X with b := n } := setCell_row h
theorem InsAt.set_c {w : World} {b : Nat} {X : Ins} (h : InsAt w b X) (n : Int) : InsAt (w.setCell ⟨b, 3, none⟩ (.int .i64 n)) b { X with c := n } := setCell_row h
theorem InsAt.set_v {w : World} {b : Nat} {X : Ins} (h : InsAt w b X) (n : Int) : InsAt (w.setCell ⟨b, 4, none⟩ (.int .u64 n)) b { X with v := n } := setCell_row h
theorem InsAt.set_m {w : World} {b : Nat} {X : Ins} (h : InsAt w b X) (n : Int) : InsAt (w.setCell ⟨b, 5, none⟩ (.int .i64 n)) b { X with m := n } := setCell_row h
theorem InsAt.set_wh {w : World} {b : Nat} {X : Ins} (h : InsAt w b X) (n : Int) : InsAt (w.setCell ⟨b, 6, none⟩ (.int .i64 n)) b { X with wh := n } := setCell_row h
theorem heap_alloc_lt {w : World} {o : Obj} {k : Nat} (h : k < w.heap.size) : (w.alloc o).heap[k]? = w.heap[k]? := Below.heap_alloc w o k h
theorem heap_alloc_at {w : World} {o : Obj} : (w.alloc o).heap[w.heap.size]? = some o := heap_alloc_new w o
theorem InsAt.alloc {w : World} {b : Nat} {X : Ins} (h : InsAt w b X) (o : Obj) : InsAt (w.alloc o) b X := by
  unfold InsAt; rw [heap_alloc_lt h.lt]; exact h
theorem grown_refl (w : World) (r : Option Nat) : w.grownBy w r := ⟨rfl, rfl, rfl, Nat.le_refl _, fun _ _ _ => rfl⟩
theorem grown_alloc {w w1 : World} {r : Option Nat} (h : w.grownBy w1 r) (o : Obj) : w.grownBy (w1.alloc o) r :=
  ⟨h.os, h.tape, h.output, by have := h.size; simp; omega, fun k hk hr => by rw [heap_alloc_lt (by have := h.size; omega)]; exact h.block k hk hr⟩
theorem grown_set {w w1 : World} {b : Nat} (h : w.grownBy w1 (some b)) (i : Nat) (v : Value) : w.grownBy (w1.setCell ⟨b, i, none⟩ v) (some b) :=
  ⟨h.os, h.tape, h.output, by have := h.size; simp; omega, fun k hk hr => by rw [setCell_block (fun e => hr (by rw [e]))]; exact h.block k hk hr⟩
theorem grown_trans {w w1 w2 : World} {r : Option Nat} (h : w.grownBy w1 r) (g : w1.grownBy w2 r) : w.grownBy w2 r :=
  ⟨g.os.trans h.os, g.tape.trans h.tape, g.output.trans h.output, Nat.le_trans h.size g.size, fun k hk hr => (g.block k (Nat.lt_of_lt_of_le hk h.size) hr).trans (h.block k hk hr)⟩

/-- An error of this package's, with its line; t: it is a text's. -/
def ErrAt (w' : World) (lo : Nat) (line : Int) (t : Bool) (v : Value) : Prop :=
  ∃ (b : Nat) (inner : Value), v = .iface 68 (.pointer (some ⟨b, 0, none⟩)) ∧ lo ≤ b ∧ w'.heap[b]? = some (.cells #[.string ⟨#[97, 115, 109]⟩, .int .i64 line, inner] 72 (0, 0)) ∧ (t = true → inner = .iface 41 (.int .i64 6))
/-- What comes of an operand: the instruction, or an error. -/
def OpDone (r : Except Bool Ins) (bx : Nat) (line : Int) (w : World) (e : Ending) (w' : World) : Prop :=
  match r with
  | .ok X => e = .returned .nilIface ∧ InsAt w' bx X ∧ w.grownBy w' (some bx)
  | .error t => ∃ v, e = .returned v ∧ ErrAt w' w.heap.size line t v ∧ w.grownBy w' (some bx)
theorem OpDone.good {r : Except Bool Ins} {bx : Nat} {line : Int} {w w' : World} (X : Ins) (h : r = .ok X) (hx : InsAt w' bx X) (hg : w.grownBy w' (some bx)) : OpDone r bx line w (.returned .nilIface) w' := by
  subst h; exact ⟨rfl, hx, hg⟩
theorem OpDone.text {r : Except Bool Ins} {bx : Nat} {line : Int} {w w1 : World} {n : Nat} (h : r = .error true) (hn : n = w1.heap.size) (hg : w.grownBy w1 (some bx)) :
    OpDone r bx line w (.returned (.iface 68 (.pointer (some ⟨n, 0, none⟩)))) (w1.alloc (.cells #[.string ⟨#[97, 115, 109]⟩, .int .i64 line, .iface 41 (.int .i64 6)] 72)) := by
  subst h; subst hn; exact ⟨_, rfl, ⟨_, _, rfl, hg.size, heap_alloc_at, fun _ => rfl⟩, grown_alloc hg _⟩
theorem OpDone.num {r : Except Bool Ins} {bx : Nat} {line : Int} {w w1 : World} {n : Nat} {x : Value} (h : r = .error false) (hn : n = w1.heap.size) (hg : w.grownBy w1 (some bx)) :
    OpDone r bx line w (.returned (.iface 68 (.pointer (some ⟨n, 0, none⟩)))) (w1.alloc (.cells #[.string ⟨#[97, 115, 109]⟩, .int .i64 line, x] 72)) := by
  subst h; subst hn; exact ⟨_, rfl, ⟨_, _, rfl, hg.size, heap_alloc_at, fun h => by cases h⟩, grown_alloc hg _⟩

theorem suf_call (s p : ByteArray) (hs : s.size ≤ 9223372036854775807) (b : Bool) (h : Lib.hasSuffix s.data.toList p.data.toList = b) (w : World) : Calls Tryd.prog 59 #[.string s, .string p] w (RetB b w) :=
  (Tryd.strings_HasSuffix s p w hs).mono fun e w' ⟨h1, h2⟩ => ⟨by rw [h1, ← h], h2.symm⟩
theorem suf_size {s p : ByteArray} (h : Lib.hasSuffix s.data.toList p.data.toList = true) : p.size ≤ s.size := by
  unfold Lib.hasSuffix at h
  have := (List.isSuffixOf_iff_suffix.1 h).length_le
  simpa using this
def sufEq : ByteArray := ⟨#[61, 48]⟩
def sufGt : ByteArray := ⟨#[62, 48]⟩
/-- A mark's When, and its number's word. -/
def markCut (t : ByteArray) (wh : Int) : Int × ByteArray :=
  if Lib.hasSuffix t.data.toList sufEq.data.toList then (1, t.extract 0 (t.size - 2))
  else if Lib.hasSuffix t.data.toList sufGt.data.toList then (2, t.extract 0 (t.size - 2))
  else (wh, t)
def markEnd (X : Ins) (wh : Int) : Except Int Int → Except Bool Ins
  | .error _ => .error false
  | .ok v => if v < 1 ∨ 99 < v then .error true else .ok { X with wh := wh, m := v }
def markV (X : Ins) (s : ByteArray) : Except Bool Ins :=
  markEnd X (markCut (s.extract 1 s.size) X.wh).1 (wparse (markCut (s.extract 1 s.size) X.wh).2)
set_option maxHeartbeats 4000000 in
theorem mark_any (s : ByteArray) (hs : s.size ≤ 65536) (h1 : 1 ≤ s.size) (line : Int) (bx : Nat) (X : Ins) (w : World) (hx : InsAt w bx X) :
    Calls Tryd.prog 38 #[.pointer (some ⟨bx, 0, none⟩), .string s, .int .i64 line] w (OpDone (markV X s) bx line w) := by
  have c5 : w.cell? ⟨bx, 5, none⟩ = some (.int .i64 X.m) := hx.cell 5
  have c6 : w.cell? ⟨bx, 6, none⟩ = some (.int .i64 X.wh) := hx.cell 6
  have f5 := hx.free 5
  have f6 := hx.free 6
  have hlt := hx.lt
  have HX := Lib.hid hx
  clear hx
  have ht : (s.extract 1 s.size).size ≤ 65536 := by simp; omega
  have HV : Hid (∀ t, s.extract 1 s.size = t → markV X s = markEnd X (markCut t X.wh).1 (wparse (markCut t X.wh).2)) := by
    intro t h; subst h; rfl
  go_enter Tryd.func38, Tryd.ntmps38
  go_wp2_with fail
  generalize hT : s.extract 1 s.size = t at *
  have HT := Lib.hid (HV.out t rfl)
  clear HV hT
  by_cases e1 : Lib.hasSuffix t.data.toList sufEq.data.toList = true
  · have h2 : 2 ≤ t.size := suf_size e1
    have HM : Hid (markV X s = markEnd X 1 (wparse (t.extract 0 (t.size - 2)))) := by show _ = _; rw [HT.out]; unfold markCut; rw [if_pos e1]
    refine (suf_call t sufEq (by omega) true e1 _).mono ?_
    clear e1 HT
    rintro e w' ⟨rfl, rfl⟩
    go_wp2_with fail
    have hu : (t.extract 0 (t.size - 2)).size ≤ maxLen := by unfold maxLen; simp; omega
    generalize t.extract 0 (t.size - 2) = u at *
    rcases hp : wparse u with j | v
    · have HE : Hid (markV X s = .error false) := by show _ = _; rw [HM.out, hp]; rfl
      have HN := Lib.hid (number_er u hu j hp)
      clear hp
      refine (HN.out _ _).mono ?_
      rintro e w' ⟨rfl, rfl⟩
      go_wp2
      go_ret
      exact OpDone.num HE.out (by simp) (grown_alloc (grown_set (grown_refl w _) _ _) _)
    · have HN := Lib.hid (number_ok u hu v hp)
      by_cases hv : v < 1 ∨ 99 < v
      · have HE : Hid (markV X s = .error true) := by show _ = _; rw [HM.out, hp]; exact if_pos hv
        clear hp
        refine (HN.out _ _).mono ?_
        rintro e w' ⟨rfl, h0, hv1, rfl⟩
        rcases hv with hv | hv
        all_goals
          go_wp2_with (go_at_call 19; refine (afail_any _ _ _ _).mono ?_; rintro e w' ⟨rfl, rfl⟩)
          go_ret
          exact OpDone.text HE.out (by simp) (grown_set (grown_refl w _) _ _)
      · have HE : Hid (markV X s = .ok { X with wh := 1, m := v }) := by show _ = _; rw [HM.out, hp]; exact if_neg hv
        have hv2 : 1 ≤ v := by omega
        have hv3 : v ≤ 99 := by omega
        clear hp hv
        refine (HN.out _ _).mono ?_
        rintro e w' ⟨rfl, h0, hv1, rfl⟩
        go_wp2
        go_ret
        exact OpDone.good _ HE.out ((HX.out.set_wh 1).set_m v) (grown_set (grown_set (grown_refl w _) _ _) _ _)
  · have e1' : Lib.hasSuffix t.data.toList sufEq.data.toList = false := by simpa using e1
    refine (suf_call t sufEq (by omega) false e1' _).mono ?_
    rintro e w' ⟨rfl, rfl⟩
    by_cases e2 : Lib.hasSuffix t.data.toList sufGt.data.toList = true
    · have h2 : 2 ≤ t.size := suf_size e2
      have HM : Hid (markV X s = markEnd X 2 (wparse (t.extract 0 (t.size - 2)))) := by show _ = _; rw [HT.out]; unfold markCut; rw [if_neg e1, if_pos e2]
      have HC := Lib.hid (suf_call t sufGt (by omega) true e2)
      clear e1 e1' e2 HT
      go_wp2_with fail
      refine (HC.out _).mono ?_
      rintro e w' ⟨rfl, rfl⟩
      go_wp2_with fail
      have hu : (t.extract 0 (t.size - 2)).size ≤ maxLen := by unfold maxLen; simp; omega
      clear HC
      generalize t.extract 0 (t.size - 2) = u at *
      rcases hp : wparse u with j | v
      · have HE : Hid (markV X s = .error false) := by show _ = _; rw [HM.out, hp]; rfl
        have HN := Lib.hid (number_er u hu j hp)
        clear hp
        refine (HN.out _ _).mono ?_
        rintro e w' ⟨rfl, rfl⟩
        go_wp2
        go_ret
        exact OpDone.num HE.out (by simp) (grown_alloc (grown_set (grown_refl w _) _ _) _)
      · have HN := Lib.hid (number_ok u hu v hp)
        by_cases hv : v < 1 ∨ 99 < v
        · have HE : Hid (markV X s = .error true) := by show _ = _; rw [HM.out, hp]; exact if_pos hv
          clear hp
          refine (HN.out _ _).mono ?_
          rintro e w' ⟨rfl, h0, hv1, rfl⟩
          rcases hv with hv | hv
          all_goals
            go_wp2_with (go_at_call 19; refine (afail_any _ _ _ _).mono ?_; rintro e w' ⟨rfl, rfl⟩)
            go_ret
            exact OpDone.text HE.out (by simp) (grown_set (grown_refl w _) _ _)
        · have HE : Hid (markV X s = .ok { X with wh := 2, m := v }) := by show _ = _; rw [HM.out, hp]; exact if_neg hv
          have hv2 : 1 ≤ v := by omega
          have hv3 : v ≤ 99 := by omega
          clear hp hv
          refine (HN.out _ _).mono ?_
          rintro e w' ⟨rfl, h0, hv1, rfl⟩
          go_wp2
          go_ret
          exact OpDone.good _ HE.out ((HX.out.set_wh 2).set_m v) (grown_set (grown_set (grown_refl w _) _ _) _ _)
    · have e2' : Lib.hasSuffix t.data.toList sufGt.data.toList = false := by simpa using e2
      have HM : Hid (markV X s = markEnd X X.wh (wparse t)) := by show _ = _; rw [HT.out]; unfold markCut; rw [if_neg e1, if_neg e2]
      have HC := Lib.hid (suf_call t sufGt (by omega) false e2')
      clear e1 e1' e2 e2' HT
      go_wp2_with fail
      refine (HC.out _).mono ?_
      rintro e w' ⟨rfl, rfl⟩
      go_wp2_with fail
      have hu : t.size ≤ maxLen := by unfold maxLen; omega
      clear HC
      obtain ⟨u, hut⟩ : ∃ u, u = t := ⟨_, rfl⟩
      subst hut
      rcases hp : wparse u with j | v
      · have HE : Hid (markV X s = .error false) := by show _ = _; rw [HM.out, hp]; rfl
        have HN := Lib.hid (number_er u hu j hp)
        clear hp
        refine (HN.out _ _).mono ?_
        rintro e w' ⟨rfl, rfl⟩
        go_wp2
        go_ret
        exact OpDone.num HE.out (by simp) (grown_alloc (grown_refl w _) _)
      · have HN := Lib.hid (number_ok u hu v hp)
        by_cases hv : v < 1 ∨ 99 < v
        · have HE : Hid (markV X s = .error true) := by show _ = _; rw [HM.out, hp]; exact if_pos hv
          clear hp
          refine (HN.out _ _).mono ?_
          rintro e w' ⟨rfl, h0, hv1, rfl⟩
          rcases hv with hv | hv
          all_goals
            go_wp2_with (go_at_call 19; refine (afail_any _ _ _ _).mono ?_; rintro e w' ⟨rfl, rfl⟩)
            go_ret
            exact OpDone.text HE.out (by simp) (grown_refl w _)
        · have HE : Hid (markV X s = .ok { X with wh := X.wh, m := v }) := by show _ = _; rw [HM.out, hp]; exact if_neg hv
          have hv2 : 1 ≤ v := by omega
          have hv3 : v ≤ 99 := by omega
          clear hp hv
          refine (HN.out _ _).mono ?_
          rintro e w' ⟨rfl, h0, hv1, rfl⟩
          go_wp2
          go_ret
          exact OpDone.good _ HE.out ((HX.out).set_m v) (grown_set (grown_refl w _) _ _)
end Go.Proofs.YtnoejikcdigceaaDoor
