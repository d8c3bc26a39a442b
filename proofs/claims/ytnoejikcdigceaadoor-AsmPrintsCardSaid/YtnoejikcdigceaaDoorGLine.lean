/- What reader.line's walk wants: words in memory, the reader over new blocks, the labels' map. asm.reader.line at lines without words, and at labels. The reader while a label or an instruction is laid into it. asm.reader.line at a label. asm.reader.line at an instruction: its first part. asm.reader.line: contract. What asm.Parse does, as a function; what holds of a reader behind each line. -/
import Derived.Test.YtnoejikcdigceaaDoorGOpnd
import Derived.Test.YtnoejikcdigceaaDoorOpM
import Derived.Laws.StructEq
import Derived.Test.YtnoejikcdigceaaDoorOpnds
import Derived.BigQuiet
import Derived.Deep.QuietTactic
import Derived.StillTailTactics
import Derived.Deep.AppendLies
import Derived.Deep.RegionLaw
import Derived.Deep.DeepCutAuto
set_option linter.unusedVariables false
set_option linter.unusedSimpArgs false
namespace Go.Proofs.YtnoejikcdigceaaDoor
open Go.RowKit
theorem wordsGo_size (t : ByteArray) : ∀ (f i a : Nat), i + f ≤ t.size + 1 → (∀ x ∈ wordsGo t f i a, 1 ≤ x.size ∧ x.size ≤ t.size) ∧ (wordsGo t f i a).length ≤ f
  | 0, _, _, _ => by simp [wordsGo]
  | f + 1, i, a, h => by
    obtain ⟨h1, h2⟩ := wordsGo_size t f (i + 1) a (by omega)
    obtain ⟨h3, h4⟩ := wordsGo_size t f (i + 1) (i + 1) (by omega)
    unfold wordsGo
    split
    · exact ⟨h1, by omega⟩
    · split
      · refine ⟨fun x hx => ?_, by simp; omega⟩
        rcases List.mem_cons.1 hx with rfl | hx
        · simp; omega
        · exact h3 x hx
      · exact ⟨h3, by omega⟩
theorem cutV_size (s : ByteArray) : (cutV s).size ≤ s.size := by
  unfold cutV; split
  · simp; omega
  · exact Nat.le_refl _
theorem wordsV_size (s : ByteArray) : (∀ x ∈ wordsV s, 1 ≤ x.size ∧ x.size ≤ s.size) ∧ (wordsV s).length ≤ s.size + 1 := by
  obtain ⟨h1, h2⟩ := wordsGo_size (cutV s) ((cutV s).size + 1) 0 0 (by omega)
  have hc := cutV_size s
  exact ⟨fun x hx => ⟨(h1 x hx).1, Nat.le_trans (h1 x hx).2 hc⟩, by unfold wordsV; omega⟩

/-- A row of texts. -/
def RowAt (w : World) (g : Nat) (ws : List ByteArray) : Prop :=
  ∃ cur : Array Value, w.heap[g]? = some (.cells cur 9 (0, 0)) ∧ ∀ (j : Nat) (x : ByteArray), ws[j]? = some x → cur[j]? = some (.string x)
theorem RowAt.keep {w w' : World} {g : Nat} {ws : List ByteArray} (h : RowAt w g ws) (k : Keep w w') : RowAt w' g ws := by
  obtain ⟨cur, h1, h2⟩ := h
  exact ⟨cur, k g cur 9 _ (Or.inl rfl) h1, h2⟩
theorem RowAt.cell {w : World} {g : Nat} {ws : List ByteArray} (h : RowAt w g ws) {j : Nat} {x : ByteArray} (hj : ws[j]? = some x) : w.cell? ⟨g, j, none⟩ = some (.string x) := by
  obtain ⟨cur, h1, h2⟩ := h
  rw [rowCell h1]; exact h2 j x hj
theorem RowAt.lt {w : World} {g : Nat} {ws : List ByteArray} (h : RowAt w g ws) : g < w.heap.size := by
  obtain ⟨cur, h1, _⟩ := h
  exact (Array.getElem?_eq_some_iff.1 h1).1
theorem RowAt.of_owns {w : World} {B : Nat} {v : Value} {ws : List ByteArray} (h : w.ownsRow B 9 1 v ws.length (ws.map Value.string)) (hne : ws ≠ []) :
    ∃ g cap, v = .slice (some ⟨g, 0, none⟩) ws.length cap ∧ B ≤ g ∧ ws.length ≤ cap ∧ cap ≤ maxLen ∧ RowAt w g ws := by
  rcases h.2 with ⟨_, h0⟩ | ⟨g, cap, cur, rfl, hB, hg, hc, hm, hs, ht⟩
  · exact absurd (List.eq_nil_of_length_eq_zero h0) hne
  · refine ⟨g, cap, rfl, hB, hc, hm, cur, hg, fun j x hj => ?_⟩
    have h1 : (ws.map Value.string)[j]? = some (.string x) := by simp [hj]
    rw [← ht] at h1
    rw [List.getElem?_take] at h1
    split at h1
    · simpa using h1
    · cases h1
theorem keep_below {w w' : World} (h : Below w.heap.size w w') : Keep w w' := by
  intro k c t f _ hk
  rw [h.block k (Array.getElem?_eq_some_iff.1 hk).1]; exact hk
theorem owns_below {w w' : World} {B : Nat} {e : TypeId} {size : Nat} {v : Value} {n : Nat} {xs : List Value} (h : w.ownsRow B e size v n xs) (hb : Below w.heap.size w w') : w'.ownsRow B e size v n xs :=
  h.kept (row := none) ⟨hb.os, hb.tape, hb.output, hb.size, fun k hk _ => hb.block k hk⟩ (by cases v.ownBlock <;> simp)
/-- New blocks leave the reader. -/
theorem RdAt.below {w w' : World} {B p bx : Nat} {st : RdSt} (h : RdAt w B p bx st) (hb : Below w.heap.size w w') : RdAt w' B p bx st := by
  obtain ⟨vl, vb, vn, vw, bm, hp, hB, hl, hne, hb', hn, hw, hbm, hm⟩ := h
  exact ⟨vl, vb, vn, vw, bm, by rw [hb.block p (Array.getElem?_eq_some_iff.1 hp).1]; exact hp, hB, owns_below hl hb, hne, owns_below hb' hb, owns_below hn hb, owns_below hw hb, hbm,
    by rw [hb.block bm (Array.getElem?_eq_some_iff.1 hm).1]; exact hm⟩
/-- The code's row lies below every new block. -/
theorem RdAt.fresh {w : World} {B p bx : Nat} {st : RdSt} (h : RdAt w B p bx st) (k : Nat) (hk : w.heap.size ≤ k) : RdAt w B p k st := by
  obtain ⟨vl, vb, vn, vw, bm, hp, hB, hl, hne, rest⟩ := h
  refine ⟨vl, vb, vn, vw, bm, hp, hB, hl, fun e => ?_, rest⟩
  have := (hl.lt k e).2
  omega
/-- Where a name stands in the list of labels. -/
def labFind : List (ByteArray × Int) → ByteArray → Nat → Option Nat
  | [], _, _ => none
  | b :: l, nm, i => if b.1 = nm then some i else labFind l nm (i + 1)
def mapEnt (x : (ByteArray × Int) × Nat) : MapEntry := { key := .string x.1.1, val := .int .i64 x.2, born := x.2 }
theorem bytes_beq' (a b : ByteArray) : (a == b) = true ↔ a = b := by
  rw [beq_toListBytes, beq_iff_eq, ByteArray.toList_eq, ByteArray.toList_eq]
  exact ⟨fun h => ByteArray.ext (Array.ext' h), fun h => by rw [h]⟩
theorem findNow_lab (nm : ByteArray) : ∀ (l : List (ByteArray × Int)) (i : Nat), Instr.findNow .string (.string nm) ((l.zipIdx i).map mapEnt) i = some ((labFind l nm i).map fun (j : Nat) => (j, Value.int .i64 (j : Int)))
  | [], _ => rfl
  | b :: l, i => by
    have ih := findNow_lab nm l (i + 1)
    simp only [List.zipIdx_cons, List.map_cons, Instr.findNow, mapEnt, Instr.sameNow, labFind]
    by_cases h : b.1 = nm
    · have h' : (nm == b.1) = true := (bytes_beq' nm b.1).2 h.symm
      rw [h', if_pos h]; rfl
    · have h' : (nm == b.1) = false := by
        rw [Bool.eq_false_iff]; intro e; exact h ((bytes_beq' nm b.1).1 e).symm
      rw [h', if_neg h]
      exact ih
theorem mapEnts_list (l : List (ByteArray × Int)) : (mapEnts l).toList = (l.zipIdx 0).map mapEnt := rfl
def foundV : Option Nat → Value
  | some j => .tuple #[.int .i64 j, .bool true]
  | none => .tuple #[.int .i64 0, .bool false]
theorem lookup_lab (w : World) (bm : Nat) (l : List (ByteArray × Int)) (n : Nat) (nm : ByteArray) (hm : w.heap[bm]? = some (.map (mapEnts l) n)) :
    (Instr.lookup 56 (.map (some bm)) (.string nm) true).run Tryd.prog w = .ok (foundV (labFind l nm 0)) w := by
  have hf : Instr.findNow .string (.string nm) (mapEnts l).toList 0 = some ((labFind l nm 0).map fun (j : Nat) => (j, Value.int .i64 (j : Int))) := findNow_lab nm l 0
  have hk : ∀ b w, (Instr.checkKey b 10000 9 (.string nm)).run Tryd.prog w = .ok () w := fun b w => by
    unfold Instr.checkKey
    simp [run_underlying Tryd.underlying9]
  have hz : (zeroValue 3).run Tryd.prog w = .ok (.int .i64 0) w := by kernel_rfl
  unfold Instr.lookup Instr.findKey
  simp only [go_sem, run_underlying Tryd.underlying56, run_underlying Tryd.underlying9, Sem.run_bind, Result.andThen_ok, getObj, Sem.run, hm, hk]
  simp only [Sem.run_pure, Result.andThen_ok, hf]
  cases labFind l nm 0 <;> simp [foundV, hz, go_sem]
end Go.Proofs.YtnoejikcdigceaaDoor

set_option linter.unusedVariables false
set_option linter.unusedSimpArgs false
namespace Go.Proofs.YtnoejikcdigceaaDoor
open Go.RowKit
/-- What comes of a line. -/
def LineDone (r : Except Bool RdSt) (B p : Nat) (line : Int) (w : World) (e : Ending) (w' : World) : Prop :=
  match r with
  | .ok st => e = .returned .nilIface ∧ RdAt w' B p p st ∧ Below B w w' ∧ Keep w w'
  | .error t => ∃ v, e = .returned v ∧ ErrAt w' B line t v ∧ Below B w w'

theorem LineDone.text {r : Except Bool RdSt} {B p : Nat} {line : Int} {w W : World} {n : Nat} (h : r = .error true) (hn : n = W.heap.size) (hb : Below B w W) (hB : B ≤ W.heap.size) :
    LineDone r B p line w (.returned (.iface 68 (.pointer (some ⟨n, 0, none⟩)))) (W.alloc (.cells #[.string ⟨#[97, 115, 109]⟩, .int .i64 line, .iface 41 (.int .i64 6)] 72)) := by
  subst h; subst hn
  exact ⟨_, rfl, ⟨_, _, rfl, hB, heap_alloc_at, fun _ => rfl⟩, hb.alloc hB _⟩
/-- A map is written. -/
def putMap (w : World) (bm : Nat) (es : Array MapEntry) (n : Nat) : World := { w with heap := w.heap.setIfInBounds bm (.map es n) }
theorem mapEnts_snoc (l : List (ByteArray × Int)) (x : ByteArray × Int) : (mapEnts l).push ⟨.string x.1, .int .i64 l.length, l.length⟩ = mapEnts (l ++ [x]) := by
  unfold mapEnts
  simp [List.zipIdx_append]
theorem update_lab (w : World) (bm : Nat) (l : List (ByteArray × Int)) (x : ByteArray × Int) (hm : w.heap[bm]? = some (.map (mapEnts l) l.length)) (hf : labFind l x.1 0 = none) :
    (Instr.mapUpdate 56 (.map (some bm)) (.string x.1) (.int .i64 l.length)).run Tryd.prog w = .ok () (putMap w bm (mapEnts (l ++ [x])) (l.length + 1)) := by
  have hf : Instr.findNow .string (.string x.1) (mapEnts l).toList 0 = some none := by
    have := findNow_lab x.1 l 0
    rw [hf] at this; exact this
  have hk : ∀ b w, (Instr.checkKey b 10000 9 (.string x.1)).run Tryd.prog w = .ok () w := fun b w => by
    unfold Instr.checkKey
    simp [run_underlying Tryd.underlying9]
  unfold Instr.mapUpdate Instr.findKey
  simp only [go_sem, run_underlying Tryd.underlying56, run_underlying Tryd.underlying9, Sem.run_bind, Result.andThen_ok, getObj, Sem.run, hm, hk]
  simp only [Sem.run_pure, Result.andThen_ok, hf]
  simp [setObj, Sem.run, hm, putMap, mapEnts_snoc]
set_option maxRecDepth 100000 in
set_option maxHeartbeats 4000000 in
theorem line_none (s : ByteArray) (hs : s.size ≤ 65536) (line : Int) (B p : Nat) (st : RdSt) (w : World) (hrd : RdAt w B p p st) (hB : B ≤ w.heap.size) (hw : wordsV s = []) :
    Calls Tryd.prog 21 #[.pointer (some ⟨p, 0, none⟩), .string s, .int .i64 line] w (LineDone (.ok st) B p line w) := by
  have HR := Lib.hid hrd
  have HW := Lib.hid hw
  clear hrd hw
  go_enter Tryd.func21, Tryd.ntmps21
  go_wp2_with fail
  refine (words_any s hs w).mono ?_
  rintro e w1 ⟨v, rfl, hown, hbel⟩
  rw [HW.out] at hown
  obtain ⟨a, c, rfl⟩ := owns_slice hown
  have hrd1 := Lib.hid (HR.out.below hbel)
  clear hown
  simp only [List.length_nil]
  go_wp2
  go_ret
  exact ⟨rfl, hrd1.out, hbel.mono hB, keep_below hbel⟩
set_option maxRecDepth 100000 in
set_option maxHeartbeats 4000000 in
theorem line_again (s : ByteArray) (hs : s.size ≤ 65536) (line : Int) (B p : Nat) (st : RdSt) (w : World) (hrd : RdAt w B p p st) (hB : B ≤ w.heap.size) (w0 : ByteArray) (hw : wordsV s = [w0])
    (h1 : 1 ≤ w0.size) (h2 : w0.size ≤ 65536) (hc : byteAt w0 (w0.size - 1) = 58) (j : Nat) (hl : labFind st.labels (w0.extract 0 (w0.size - 1)) 0 = some j) :
    Calls Tryd.prog 21 #[.pointer (some ⟨p, 0, none⟩), .string s, .int .i64 line] w (LineDone (.error true) B p line w) := by
  have HR := Lib.hid hrd
  have HW := Lib.hid hw
  have p1 : w0.size - 1 < w0.size := by omega
  have b1 : ((w0[w0.size - 1].toNat : Int) == 58) = true := by rw [byteAt_of, beq_iff_eq]; exact hc
  have HL := Lib.hid hl
  clear hrd hw hc hl
  go_enter Tryd.func21, Tryd.ntmps21
  go_wp2_with fail
  refine (words_any s hs w).mono ?_
  rintro e w1 ⟨v, rfl, hown, hbel⟩
  rw [HW.out] at hown
  obtain ⟨g, cap, rfl, hBg, hcap, hcm, hrow⟩ := RowAt.of_owns hown (by simp)
  have hrd1 := HR.out.below hbel
  have HRD := Lib.hid hrd1
  obtain ⟨vl, vb, vn, vw, bm, hp, hBp, hll, hne, hbb, hnn, hww, hbm, hm⟩ := hrd1
  have q3 : w1.cell? ⟨p, 3, none⟩ = some (.map (some bm)) := rowCell hp
  have t0 : w1.cell? ⟨g, 0, none⟩ = some (.string w0) := hrow.cell (j := 0) rfl
  have hplt : p < w1.heap.size := (Array.getElem?_eq_some_iff.1 hp).1
  have hglt : g < w1.heap.size := hrow.lt
  have HM := Lib.hid hm
  have hlk : ∀ nq, (Instr.lookup 56 (.map (some bm)) (.string (w0.extract 0 (w0.size - 1))) true).run Tryd.prog (w1.drewN nq) = .ok (.tuple #[.int .i64 j, .bool true]) (w1.drewN nq) := fun nq => by
    rw [lookup_lab (w1.drewN nq) bm st.labels st.labels.length _ HM.out, HL.out]; rfl
  clear hp hll hne hbb hnn hww hm hown hrow
  have hcap1 : 1 ≤ cap := by simpa using hcap
  clear hcap
  simp only [List.length_cons, List.length_nil]
  go_wp2
  have hn0 : (0 : Int) ≤ (w0.size : Int) - 1 := by omega
  have hn1 : ((w0.size : Int) - 1).toNat = w0.size - 1 := by omega
  have hn2 : (w0.size : Int) - 1 ≤ (w0.size : Int) := by omega
  go_quiet (fail)
  clear hlk hn0 hn1 hn2
  go_wp2_with (go_at_call 19; refine (afail_any _ _ _ _).mono ?_; rintro e w' ⟨rfl, rfl⟩)
  go_ret
  exact LineDone.text rfl rfl (below_drewN (hbel.mono hB) _) (by have := hbel.size; simp; omega)
set_option maxRecDepth 100000 in
set_option maxHeartbeats 4000000 in
theorem line_badname (s : ByteArray) (hs : s.size ≤ 65536) (line : Int) (B p : Nat) (st : RdSt) (w : World) (hrd : RdAt w B p p st) (hB : B ≤ w.heap.size) (w0 : ByteArray) (hw : wordsV s = [w0])
    (h1 : 1 ≤ w0.size) (h2 : w0.size ≤ 65536) (hc : byteAt w0 (w0.size - 1) = 58) (hl : labFind st.labels (w0.extract 0 (w0.size - 1)) 0 = none) (hnm : nameV (w0.extract 0 (w0.size - 1)) = false) :
    Calls Tryd.prog 21 #[.pointer (some ⟨p, 0, none⟩), .string s, .int .i64 line] w (LineDone (.error true) B p line w) := by
  have HR := Lib.hid hrd
  have HW := Lib.hid hw
  have p1 : w0.size - 1 < w0.size := by omega
  have b1 : ((w0[w0.size - 1].toNat : Int) == 58) = true := by rw [byteAt_of, beq_iff_eq]; exact hc
  have HL := Lib.hid hl
  have HN := Lib.hid (named_call (w0.extract 0 (w0.size - 1)) (by unfold maxLen; simp; omega) false hnm)
  clear hnm
  clear hrd hw hc hl
  go_enter Tryd.func21, Tryd.ntmps21
  go_wp2_with fail
  refine (words_any s hs w).mono ?_
  rintro e w1 ⟨v, rfl, hown, hbel⟩
  rw [HW.out] at hown
  obtain ⟨g, cap, rfl, hBg, hcap, hcm, hrow⟩ := RowAt.of_owns hown (by simp)
  have hrd1 := HR.out.below hbel
  have HRD := Lib.hid hrd1
  obtain ⟨vl, vb, vn, vw, bm, hp, hBp, hll, hne, hbb, hnn, hww, hbm, hm⟩ := hrd1
  have q3 : w1.cell? ⟨p, 3, none⟩ = some (.map (some bm)) := rowCell hp
  have t0 : w1.cell? ⟨g, 0, none⟩ = some (.string w0) := hrow.cell (j := 0) rfl
  have hplt : p < w1.heap.size := (Array.getElem?_eq_some_iff.1 hp).1
  have hglt : g < w1.heap.size := hrow.lt
  have HM := Lib.hid hm
  have hlk : ∀ nq, (Instr.lookup 56 (.map (some bm)) (.string (w0.extract 0 (w0.size - 1))) true).run Tryd.prog (w1.drewN nq) = .ok (.tuple #[.int .i64 0, .bool false]) (w1.drewN nq) := fun nq => by
    rw [lookup_lab (w1.drewN nq) bm st.labels st.labels.length _ HM.out, HL.out]; rfl
  clear hp hll hne hbb hnn hww hm hown hrow
  have hcap1 : 1 ≤ cap := by simpa using hcap
  clear hcap
  simp only [List.length_cons, List.length_nil]
  go_wp2
  have hn0 : (0 : Int) ≤ (w0.size : Int) - 1 := by omega
  have hn1 : ((w0.size : Int) - 1).toNat = w0.size - 1 := by omega
  have hn2 : (w0.size : Int) - 1 ≤ (w0.size : Int) := by omega
  go_quiet (fail)
  clear hlk
  go_wp2_with (first | (go_at_call 35; refine (HN.out _).mono ?_; rintro e w' ⟨rfl, rfl⟩) | (go_at_call 19; refine (afail_any _ _ _ _).mono ?_; rintro e w' ⟨rfl, rfl⟩))
  go_ret
  exact LineDone.text rfl rfl (below_drewN (hbel.mono hB) _) (by have := hbel.size; simp; omega)
end Go.Proofs.YtnoejikcdigceaaDoor

set_option linter.unusedVariables false
set_option linter.unusedSimpArgs false
namespace Go.Proofs.YtnoejikcdigceaaDoor
open Go.RowKit

/-- The reader at block p, its map with the labels lm. -/
def RdP (w : World) (B p bx : Nat) (code : List Ins) (lm labels : List (ByteArray × Int)) (lines : List Int) (wants : List (Int × Int × ByteArray)) : Prop :=
  ∃ vl vb vn vw bm, w.heap[p]? = some (.cells #[vl, vb, vn, .map (some bm), vw] 60 (0, 0)) ∧ B ≤ p ∧
    w.ownsRow B 37 7 vl code.length (flatIns code) ∧ vl.ownBlock ≠ some bx ∧
    w.ownsRow B 33 2 vb labels.length (flatLab labels) ∧
    w.ownsRow B 3 1 vn lines.length (flatInt lines) ∧
    w.ownsRow B 64 3 vw wants.length (flatWant wants) ∧
    B ≤ bm ∧ w.heap[bm]? = some (.map (mapEnts lm) lm.length)
theorem RdAt.parts {w : World} {B p bx : Nat} {st : RdSt} (h : RdAt w B p bx st) : RdP w B p bx st.code st.labels st.labels st.lines st.wants := h
theorem RdP.whole {w : World} {B p bx : Nat} {st : RdSt} (h : RdP w B p bx st.code st.labels st.labels st.lines st.wants) : RdAt w B p bx st := h
theorem putMap_other {w : World} {bm k : Nat} {es : Array MapEntry} {n : Nat} (h : k ≠ bm) : (putMap w bm es n).heap[k]? = w.heap[k]? := by
  unfold putMap
  simp only [Array.getElem?_setIfInBounds]
  rw [if_neg (Ne.symm h)]
theorem putMap_grown (w : World) (bm : Nat) (es : Array MapEntry) (n : Nat) : w.grownBy (putMap w bm es n) (some bm) :=
  ⟨rfl, rfl, rfl, by simp [putMap], fun k _ hr => putMap_other (fun e => hr (by rw [e]))⟩
theorem row_ne_map {w : World} {B : Nat} {e : TypeId} {size : Nat} {v : Value} {n : Nat} {xs : List Value} (h : w.ownsRow B e size v n xs) {k : Nat} {c : Array MapEntry} {t : Nat} (hk : w.heap[k]? = some (.map c t)) : v.ownBlock = none ∨ v.ownBlock ≠ some k := Or.inr (row_map h hk)
theorem RdP.put {w : World} {B p bx bm : Nat} {code : List Ins} {lm l : List (ByteArray × Int)} {lines : List Int} {wants : List (Int × Int × ByteArray)} {vl vb vn vw : Value} (x : ByteArray × Int)
    (hp : w.heap[p]? = some (.cells #[vl, vb, vn, .map (some bm), vw] 60 (0, 0))) (hBp : B ≤ p) (hl : w.ownsRow B 37 7 vl code.length (flatIns code)) (hne : vl.ownBlock ≠ some bx)
    (hb : w.ownsRow B 33 2 vb l.length (flatLab l)) (hn : w.ownsRow B 3 1 vn lines.length (flatInt lines)) (hw : w.ownsRow B 64 3 vw wants.length (flatWant wants))
    (hbm : B ≤ bm) (hm : w.heap[bm]? = some (.map (mapEnts lm) lm.length)) :
    RdP (putMap w bm (mapEnts (lm ++ [x])) (lm.length + 1)) B p bx code (lm ++ [x]) l lines wants ∧ Below B w (putMap w bm (mapEnts (lm ++ [x])) (lm.length + 1)) ∧ Keep w (putMap w bm (mapEnts (lm ++ [x])) (lm.length + 1)) := by
  have hg := putMap_grown w bm (mapEnts (lm ++ [x])) (lm.length + 1)
  have hlt : bm < w.heap.size := (Array.getElem?_eq_some_iff.1 hm).1
  have hpm : p ≠ bm := by
    intro e; subst e; rw [hm] at hp; injection hp with hp; cases hp
  refine ⟨⟨vl, vb, vn, vw, bm, ?_, hBp, hl.kept hg (row_ne_map hl hm), hne, hb.kept hg (row_ne_map hb hm), hn.kept hg (row_ne_map hn hm), hw.kept hg (row_ne_map hw hm), hbm, ?_⟩, ?_, ?_⟩
  · rw [putMap_other hpm]; exact hp
  · unfold putMap; simp [Array.getElem?_setIfInBounds, hlt]
  · exact ⟨rfl, rfl, rfl, by simp [putMap], fun k hk => putMap_other (by omega)⟩
  · intro k c t f _ hk
    rw [putMap_other (fun e => by subst e; rw [hm] at hk; injection hk with hk; cases hk)]; exact hk
theorem rd_lab {w w1 : World} {B p bx bm : Nat} {code : List Ins} {lm l : List (ByteArray × Int)} {lines : List Int} {wants : List (Int × Int × ByteArray)} {vl vb vn vw v' : Value} {y : ByteArray × Int}
    (hp : w.heap[p]? = some (.cells #[vl, vb, vn, .map (some bm), vw] 60 (0, 0))) (hBp : B ≤ p) (hl : w.ownsRow B 37 7 vl code.length (flatIns code)) (hne : vl.ownBlock ≠ some bx)
    (hb : w.ownsRow B 33 2 vb l.length (flatLab l)) (hn : w.ownsRow B 3 1 vn lines.length (flatInt lines)) (hw : w.ownsRow B 64 3 vw wants.length (flatWant wants))
    (hbm : B ≤ bm) (hm : w.heap[bm]? = some (.map (mapEnts lm) lm.length))
    (hown : w1.ownsRow B 33 2 v' (l.length + 1) (flatLab l ++ [.string y.1, .int .i64 y.2])) (hg : w.grownBy w1 vb.ownBlock) :
    RdP (w1.setCell ⟨p, 1, none⟩ v') B p bx code lm (l ++ [y]) lines wants ∧ Below B w (w1.setCell ⟨p, 1, none⟩ v') ∧ Keep w (w1.setCell ⟨p, 1, none⟩ v') := by
  have hplt : p < w.heap.size := (Array.getElem?_eq_some_iff.1 hp).1
  have hwp : vb.ownBlock ≠ some p := row_type hb hp (by decide)
  have hp1 : w1.heap[p]? = some (.cells #[vl, vb, vn, .map (some bm), vw] 60 (0, 0)) := by rw [hg.block p hplt (Ne.symm hwp)]; exact hp
  have hpm : bm ≠ p := by
    intro e; subst e; rw [hm] at hp; injection hp with hp; cases hp
  refine ⟨⟨vl, v', vn, vw, bm, setCell_row hp1, hBp, row_keep hl hg (rows_ne hl hb (by decide)) hp1 (by decide), hne, ?_, row_keep hn hg (rows_ne hn hb (by decide)) hp1 (by decide), row_keep hw hg (rows_ne hw hb (by decide)) hp1 (by decide), hbm, ?_⟩, ?_, ?_⟩
  · have := own_set (j := 1) (u := v') hown hp1 (by decide)
    simpa [flatLab] using this
  · rw [setCell_block (by simpa using hpm), hg.block bm (Array.getElem?_eq_some_iff.1 hm).1 (Ne.symm (row_map hb hm))]; exact hm
  · exact below_field hg (fun k hk => (hb.lt k hk).1) hBp hplt
  · exact keep_field hp hg (row_kinds hb (by decide))
theorem rd_line {w w1 : World} {B p bx bm : Nat} {code : List Ins} {lm l : List (ByteArray × Int)} {lines : List Int} {wants : List (Int × Int × ByteArray)} {vl vb vn vw v' : Value} {y : Int}
    (hp : w.heap[p]? = some (.cells #[vl, vb, vn, .map (some bm), vw] 60 (0, 0))) (hBp : B ≤ p) (hl : w.ownsRow B 37 7 vl code.length (flatIns code)) (hne : vl.ownBlock ≠ some bx)
    (hb : w.ownsRow B 33 2 vb l.length (flatLab l)) (hn : w.ownsRow B 3 1 vn lines.length (flatInt lines)) (hw : w.ownsRow B 64 3 vw wants.length (flatWant wants))
    (hbm : B ≤ bm) (hm : w.heap[bm]? = some (.map (mapEnts lm) lm.length))
    (hown : w1.ownsRow B 3 1 v' (lines.length + 1) (flatInt lines ++ [.int .i64 y])) (hg : w.grownBy w1 vn.ownBlock) :
    RdP (w1.setCell ⟨p, 2, none⟩ v') B p bx code lm l (lines ++ [y]) wants ∧ Below B w (w1.setCell ⟨p, 2, none⟩ v') ∧ Keep w (w1.setCell ⟨p, 2, none⟩ v') := by
  have hplt : p < w.heap.size := (Array.getElem?_eq_some_iff.1 hp).1
  have hwp : vn.ownBlock ≠ some p := row_type hn hp (by decide)
  have hp1 : w1.heap[p]? = some (.cells #[vl, vb, vn, .map (some bm), vw] 60 (0, 0)) := by rw [hg.block p hplt (Ne.symm hwp)]; exact hp
  have hpm : bm ≠ p := by
    intro e; subst e; rw [hm] at hp; injection hp with hp; cases hp
  refine ⟨⟨vl, vb, v', vw, bm, setCell_row hp1, hBp, row_keep hl hg (rows_ne hl hn (by decide)) hp1 (by decide), hne, row_keep hb hg (rows_ne hb hn (by decide)) hp1 (by decide), ?_, row_keep hw hg (rows_ne hw hn (by decide)) hp1 (by decide), hbm, ?_⟩, ?_, ?_⟩
  · have := own_set (j := 2) (u := v') hown hp1 (by decide)
    simpa [flatInt] using this
  · rw [setCell_block (by simpa using hpm), hg.block bm (Array.getElem?_eq_some_iff.1 hm).1 (Ne.symm (row_map hn hm))]; exact hm
  · exact below_field hg (fun k hk => (hn.lt k hk).1) hBp hplt
  · exact keep_field hp hg (row_kinds hn (by decide))
theorem rd_code {w w1 : World} {B p bx bm : Nat} {code : List Ins} {lm l : List (ByteArray × Int)} {lines : List Int} {wants : List (Int × Int × ByteArray)} {vl vb vn vw v' : Value} {y : Ins}
    (hp : w.heap[p]? = some (.cells #[vl, vb, vn, .map (some bm), vw] 60 (0, 0))) (hBp : B ≤ p) (hl : w.ownsRow B 37 7 vl code.length (flatIns code)) (hne : vl.ownBlock ≠ some bx)
    (hb : w.ownsRow B 33 2 vb l.length (flatLab l)) (hn : w.ownsRow B 3 1 vn lines.length (flatInt lines)) (hw : w.ownsRow B 64 3 vw wants.length (flatWant wants))
    (hbm : B ≤ bm) (hm : w.heap[bm]? = some (.map (mapEnts lm) lm.length))
    (hown : w1.ownsRow B 37 7 v' (code.length + 1) (flatIns code ++ (insCells y).toList)) (hg : w.grownBy w1 vl.ownBlock) (hne' : v'.ownBlock ≠ some bx) :
    RdP (w1.setCell ⟨p, 0, none⟩ v') B p bx (code ++ [y]) lm l lines wants ∧ Below B w (w1.setCell ⟨p, 0, none⟩ v') ∧ Keep w (w1.setCell ⟨p, 0, none⟩ v') := by
  have hplt : p < w.heap.size := (Array.getElem?_eq_some_iff.1 hp).1
  have hwp : vl.ownBlock ≠ some p := row_type hl hp (by decide)
  have hp1 : w1.heap[p]? = some (.cells #[vl, vb, vn, .map (some bm), vw] 60 (0, 0)) := by rw [hg.block p hplt (Ne.symm hwp)]; exact hp
  have hpm : bm ≠ p := by
    intro e; subst e; rw [hm] at hp; injection hp with hp; cases hp
  refine ⟨⟨v', vb, vn, vw, bm, setCell_row hp1, hBp, ?_, hne', row_keep hb hg (rows_ne hb hl (by decide)) hp1 (by decide), row_keep hn hg (rows_ne hn hl (by decide)) hp1 (by decide), row_keep hw hg (rows_ne hw hl (by decide)) hp1 (by decide), hbm, ?_⟩, ?_, ?_⟩
  · have := own_set (j := 0) (u := v') hown hp1 (by decide)
    simpa [flatIns] using this
  · rw [setCell_block (by simpa using hpm), hg.block bm (Array.getElem?_eq_some_iff.1 hm).1 (Ne.symm (row_map hl hm))]; exact hm
  · exact below_field hg (fun k hk => (hl.lt k hk).1) hBp hplt
  · exact keep_field hp hg (row_kinds hl (by decide))
end Go.Proofs.YtnoejikcdigceaaDoor

set_option linter.unusedVariables false
set_option linter.unusedSimpArgs false
namespace Go.Proofs.YtnoejikcdigceaaDoor
open Go.RowKit
theorem below_of_drew {B : Nat} {w w' : World} (h : Below B w.drew w') : Below B w w' := ⟨h.os, h.tape, h.output, h.size, h.block⟩
theorem info33 : (Tryd.prog.info? 33).map (fun i => (i.zero, i.size, i.bytes)) = some (some (.agg #[.string ByteArray.empty, .int .i64 0]), 2, 24) := by kernel_rfl
theorem info3 : (Tryd.prog.info? 3).map (fun i => (i.zero, i.size, i.bytes)) = some (some (.int .i64 0), 1, 8) := by kernel_rfl
set_option maxRecDepth 100000 in
set_option maxHeartbeats 4000000 in
theorem line_label (s : ByteArray) (hs : s.size ≤ 65536) (line : Int) (B p : Nat) (st : RdSt) (w : World) (hrd : RdAt w B p p st) (hB : B ≤ w.heap.size) (w0 : ByteArray) (hw : wordsV s = [w0])
    (h1 : 1 ≤ w0.size) (h2 : w0.size ≤ 65536) (hc : byteAt w0 (w0.size - 1) = 58) (hl : labFind st.labels (w0.extract 0 (w0.size - 1)) 0 = none) (hnm : nameV (w0.extract 0 (w0.size - 1)) = true) (hl1 : st.labels.length ≤ 1048576) (hl2 : st.lines.length ≤ 1048576) :
    Calls Tryd.prog 21 #[.pointer (some ⟨p, 0, none⟩), .string s, .int .i64 line] w (LineDone (.ok { st with labels := st.labels ++ [(w0.extract 0 (w0.size - 1), (st.code.length : Int))], lines := st.lines ++ [line] }) B p line w) := by
  have HR := Lib.hid hrd
  have HW := Lib.hid hw
  have p1 : w0.size - 1 < w0.size := by omega
  have b1 : ((w0[w0.size - 1].toNat : Int) == 58) = true := by rw [byteAt_of, beq_iff_eq]; exact hc
  have HL := Lib.hid hl
  have HN := Lib.hid (named_call (w0.extract 0 (w0.size - 1)) (by unfold maxLen; simp; omega) true hnm)
  clear hnm
  clear hrd hw hc hl
  go_enter Tryd.func21, Tryd.ntmps21
  go_wp2_with fail
  refine (words_any s hs w).mono ?_
  rintro e w1 ⟨v, rfl, hown, hbel⟩
  rw [HW.out] at hown
  obtain ⟨g, cap, rfl, hBg, hcap, hcm, hrow⟩ := RowAt.of_owns hown (by simp)
  have hrd1 := HR.out.below hbel
  have HRD := Lib.hid hrd1
  obtain ⟨vl, vb, vn, vw, bm, hp, hBp, hll, hne, hbb, hnn, hww, hbm, hm⟩ := hrd1
  have q3 : w1.cell? ⟨p, 3, none⟩ = some (.map (some bm)) := rowCell hp
  have t0 : w1.cell? ⟨g, 0, none⟩ = some (.string w0) := hrow.cell (j := 0) rfl
  have hplt : p < w1.heap.size := (Array.getElem?_eq_some_iff.1 hp).1
  have hglt : g < w1.heap.size := hrow.lt
  have HM := Lib.hid hm
  have hlk : ∀ nq, (Instr.lookup 56 (.map (some bm)) (.string (w0.extract 0 (w0.size - 1))) true).run Tryd.prog (w1.drewN nq) = .ok (.tuple #[.int .i64 0, .bool false]) (w1.drewN nq) := fun nq => by
    rw [lookup_lab (w1.drewN nq) bm st.labels st.labels.length _ HM.out, HL.out]; rfl
  have HROW := Lib.hid hrow
  clear hp hll hne hbb hnn hww hm hown hrow
  have hcap1 : 1 ≤ cap := by simpa using hcap
  clear hcap
  simp only [List.length_cons, List.length_nil]
  go_wp2
  have hn0 : (0 : Int) ≤ (w0.size : Int) - 1 := by omega
  have hn1 : ((w0.size : Int) - 1).toNat = w0.size - 1 := by omega
  have hn2 : (w0.size : Int) - 1 ≤ (w0.size : Int) := by omega
  go_quiet (fail)
  clear hlk
  obtain ⟨w2, hw2⟩ : ∃ w2, w1.drewN nq = w2 := ⟨_, rfl⟩
  have HB2 : Hid (Below w.heap.size w w2) := by rw [← hw2]; exact below_drewN hbel _
  have hrd2 : RdAt w2 B p p st := by rw [← hw2]; exact HRD.out
  have hrow2 : RowAt w2 g [w0] := by rw [← hw2]; exact HROW.out
  rw [hw2]
  clear hw2 q3 t0 hplt hglt hbm hbel HM HRD HROW hBp
  obtain ⟨vl, vb, vn, vw, bm, hp, hBp, hll, hne, hbb, hnn, hww, hbm, hm⟩ := hrd2.parts
  obtain ⟨ab, cb, rfl⟩ := owns_slice hbb
  have q1 : w2.cell? ⟨p, 1, none⟩ = some (.slice ab st.labels.length cb) := rowCell hp
  have q3 : w2.cell? ⟨p, 3, none⟩ = some (.map (some bm)) := rowCell hp
  have t0 : w2.cell? ⟨g, 0, none⟩ = some (.string w0) := hrow2.cell (j := 0) rfl
  have HPUT := Lib.hid (RdP.put (w := w2.drew) (w0.extract 0 (w0.size - 1), (st.code.length : Int)) hp hBp hll hne hbb hnn hww hbm hm)
  have hmu : (Instr.mapUpdate 56 (.map (some bm)) (.string (w0.extract 0 (w0.size - 1))) (.int .i64 st.labels.length)).run Tryd.prog w2.drew = .ok () (putMap w2.drew bm (mapEnts (st.labels ++ [(w0.extract 0 (w0.size - 1), (st.code.length : Int))])) (st.labels.length + 1)) :=
    update_lab w2.drew bm st.labels (w0.extract 0 (w0.size - 1), (st.code.length : Int)) hm HL.out
  clear hp hll hne hbb hnn hww hbm hm
  go_wp2_with (go_at_call 35; refine (HN.out _).mono ?_; rintro e w' ⟨rfl, rfl⟩)
  go_still_tail 14, (by kernel_rfl)
  change wpList _ _ _ _ _ w2.drew
  go_wp2_with fail
  obtain ⟨w3, hw3⟩ : ∃ w3, putMap w2.drew bm (mapEnts (st.labels ++ [(w0.extract 0 (w0.size - 1), (st.code.length : Int))])) (st.labels.length + 1) = w3 := ⟨_, rfl⟩
  rw [hw3]
  have HP3 : Hid (RdP w3 B p p st.code (st.labels ++ [(w0.extract 0 (w0.size - 1), (st.code.length : Int))]) st.labels st.lines st.wants ∧ Below B w2 w3 ∧ Keep w2 w3) := by rw [← hw3]; exact ⟨HPUT.out.1, below_of_drew HPUT.out.2.1, HPUT.out.2.2⟩
  clear hw3 hmu q1 q3 t0 HPUT
  obtain ⟨vl, vb, vn, vw, bm, hp, hBp, hll, hne, hbb, hnn, hww, hbm, hm⟩ := HP3.out.1
  obtain ⟨ac, cc, rfl⟩ := owns_slice hll
  have q0 : w3.cell? ⟨p, 0, none⟩ = some (.slice ac st.code.length cc) := rowCell hp
  have q1 : w3.cell? ⟨p, 1, none⟩ = some vb := rowCell hp
  have g1 : w3.frozen? ⟨p, 1, none⟩ = false := rowFree hp
  have t0 : w3.cell? ⟨g, 0, none⟩ = some (.string w0) := (hrow2.keep HP3.out.2.2).cell (j := 0) rfl
  have hplt : p < w3.heap.size := (Array.getElem?_eq_some_iff.1 hp).1
  have hglt : g < w3.heap.size := (hrow2.keep HP3.out.2.2).lt
  have hwp : vb.ownBlock ≠ some p := row_type hbb hp (by decide)
  have hwg : vb.ownBlock ≠ some g := by
    obtain ⟨cur, hc1, _⟩ := hrow2.keep HP3.out.2.2
    exact row_type hbb hc1 (by decide)
  have hB3 : B ≤ w3.heap.size := by omega
  obtain ⟨i0, hi0, hz0, hz1, hz2⟩ := info_parts info33
  have HI0 := Lib.hid hi0
  have HPp := Lib.hid hp
  have HLl := Lib.hid hll
  have HNe := Lib.hid hne
  have HNn := Lib.hid hnn
  have HWw := Lib.hid hww
  have HM3 := Lib.hid hm
  have HROW2 := Lib.hid hrow2
  clear hi0 hp hll hne hnn hww hm hrow2
  go_cut [] (fun wc => RdP wc B p p st.code (st.labels ++ [(w0.extract 0 (w0.size - 1), (st.code.length : Int))]) (st.labels ++ [(w0.extract 0 (w0.size - 1), (st.code.length : Int))]) st.lines st.wants ∧ Below B w3 wc ∧ Keep w3 wc)
  case first =>
    go_region_law (first | (refine step_append_lies _ (by rfl) _ _ _ (by rfl) B 33 i0 _ 2 24 Tryd.underlying26 HI0.out hz0 hz1 hz2 rfl (by omega) vb st.labels.length (flatLab st.labels) (by rfl) ((hbb.alloc _).drew) ⟨w3.heap.size, 0, none⟩ 1 1 [.string (w0.extract 0 (w0.size - 1)), .int .i64 st.code.length] (by rfl) (by rfl) (World.news_of_block (cs := #[.string (w0.extract 0 (w0.size - 1)), .int .i64 st.code.length]) (t := 33) (fr := (0, 0)) (heap_alloc_new w3 _)) (by simp [Value.oneCell']) (by omega) (by unfold maxLen; omega) (by omega) (by simp; omega) (w3.heap.size + 1) (by simp) ?_; intro gg cap2 w4 hown4 hgrow hat hlt; have r4 : w4.cell? ⟨p, 1, none⟩ = some vb := (hgrow.cell_far ⟨p, 1, none⟩ (by simp; omega) (Ne.symm hwp)).trans (by simp [go_sem, World.cell?_alloc_past, hplt, q1]); have r5 : w4.frozen? ⟨p, 1, none⟩ = false := (hgrow.frozen_far ⟨p, 1, none⟩ (by simp; omega) (Ne.symm hwp)).trans (by simp [go_sem, World.frozen?_alloc_past, hplt, g1])))
    all_goals (go_wp2_with fail; go_meet; exact (rd_lab (y := (w0.extract 0 (w0.size - 1), (st.code.length : Int))) HPp.out hBp HLl.out HNe.out hbb HNn.out HWw.out hbm HM3.out (by simpa using hown4) (grown_of_alloc (grown_of_drew hgrow))))
  case rest =>
    obtain ⟨w5, hw5⟩ : ∃ w5, wc = w5 := ⟨_, rfl⟩
    subst hw5
    have R := hcut
    clear hcut hbb hwp hwg q0 q1 g1 t0 hplt hglt hbm hz0 hz1 hz2 HI0 HPp HLl HNe HNn HWw HM3
    have HP5 := Lib.hid R
    clear R
    obtain ⟨vl5, vb5, vn5, vwc, bm5, hp5, hBp5, hll5, hne5, hbb5, hnn5, hwwc, hbm5, hm5⟩ := HP5.out.1
    have q2 : wc.cell? ⟨p, 2, none⟩ = some vn5 := rowCell hp5
    have g2 : wc.frozen? ⟨p, 2, none⟩ = false := rowFree hp5
    have hplt5 : p < wc.heap.size := (Array.getElem?_eq_some_iff.1 hp5).1
    have hwp5 : vn5.ownBlock ≠ some p := row_type hnn5 hp5 (by decide)
    have hB5 : B ≤ wc.heap.size := by omega
    obtain ⟨i5, hi5, hy0, hy1, hy2⟩ := info_parts info3
    have HP := Lib.hid hp5
    have HL5 := Lib.hid hll5
    have HNE5 := Lib.hid hne5
    have HBB5 := Lib.hid hbb5
    have HWW5 := Lib.hid hwwc
    have HM5 := Lib.hid hm5
    have HI5 := Lib.hid hi5
    clear hp5 hll5 hne5 hbb5 hwwc hm5 hi5
    go_wp2_with (at_builtin; refine wpList_append_own _ rfl _ _ 57 rfl B 3 i5 (.int .i64 0) 1 8 Tryd.underlying57 HI5.out hy0 hy1 hy2 rfl (by decide) _ _ _ rfl (hnn5.alloc _) ⟨wc.heap.size, 0, none⟩ 1 1 [.int .i64 line] rfl rfl ?_ ?_ ?_ ?_ ?_ ?_)
    · intro j u hj
      match j, hj with
      | 0, hj => simp at hj; subst hj; simp [Addr.add]
    · first | rfl | (intro u hu; simp at hu; subst hu; rfl)
    · unfold maxLen; omega
    · omega
    · simp; omega
    · intro v6 w6 hown6 hgrow6 _
      have r6 : w6.cell? ⟨p, 2, none⟩ = some vn5 := (hgrow6.cell_far ⟨p, 2, none⟩ (by simp; omega) (Ne.symm hwp5)).trans (by simp [go_sem, World.cell?_alloc_past, hplt5, q2])
      have r7 : w6.frozen? ⟨p, 2, none⟩ = false := (hgrow6.frozen_far ⟨p, 2, none⟩ (by simp; omega) (Ne.symm hwp5)).trans (by simp [go_sem, World.frozen?_alloc_past, hplt5, g2])
      obtain ⟨a6, c6, rfl⟩ := owns_slice hown6
      have R6 := rd_line (y := line) HP.out hBp5 HL5.out HNE5.out HBB5.out hnn5 HWW5.out hbm5 HM5.out (by simpa using hown6) (grown_of_alloc hgrow6)
      have HR6 := Lib.hid R6
      clear R6 hown6 hgrow6 hnn5 q2 g2 hplt5
      go_wp2
      go_ret
      have hB2 := (HB2.out.mono hB).trans (HP3.out.2.1.trans (HP5.out.2.1.trans HR6.out.2.1))
      have hK2 := (keep_below HB2.out).trans (HP3.out.2.2.trans (HP5.out.2.2.trans HR6.out.2.2))
      exact ⟨rfl, RdP.whole HR6.out.1, hB2, hK2⟩
end Go.Proofs.YtnoejikcdigceaaDoor

set_option linter.unusedVariables false
set_option linter.unusedSimpArgs false
namespace Go.Proofs.YtnoejikcdigceaaDoor
open Go.RowKit
def cntV (k : Int × Int × Int) : Nat := if k.1 = 0 then 0 else if k.2.1 = 0 then 1 else if k.2.2 = 0 then 2 else 3
def kindAt (k : Int × Int × Int) (i : Nat) : Int := if i = 0 then k.1 else if i = 1 then k.2.1 else k.2.2
def wordAt (ws : List ByteArray) (i : Nat) : ByteArray := ws.getD i ByteArray.empty
def opndsGo (line : Int) (k : Int × Int × Int) (ws : List ByteArray) : Nat → Nat → RdSt → Ins → Except Bool (RdSt × Ins)
  | 0, _, st, X => .ok (st, X)
  | f + 1, i, st, X => match opndV st X (kindAt k i) (wordAt ws i) line with
    | .ok (st', X') => opndsGo line k ws f (i + 1) st' X'
    | .error t => .error t
def insPush (st : RdSt) : Except Bool Ins → Except Bool RdSt
  | .ok X => .ok { st with code := st.code ++ [X] }
  | .error t => .error t
def insEnd (n : Nat) (ws : List ByteArray) : Except Bool (RdSt × Ins) → Except Bool RdSt
  | .ok (st, X) => insPush st (if n < ws.length then markV X (wordAt ws n) else .ok X)
  | .error t => .error t
def insX (op : Int) : Ins := ⟨op, 0, 0, 0, 0, 0, 0⟩
def cntBad (n : Nat) (ws : List ByteArray) : Bool := decide (ws.length ≠ n ∧ (ws.length ≠ n + 1 ∨ byteAt (wordAt ws n) 0 ≠ 33))
def insV (st : RdSt) (w0 : ByteArray) (rest : List ByteArray) (line : Int) : Except Bool RdSt :=
  if opV w0 = 0 then .error true
  else if cntBad (cntV (opndsV (opV w0))) rest then .error true
  else insEnd (cntV (opndsV (opV w0))) rest (opndsGo line (opndsV (opV w0)) rest (cntV (opndsV (opV w0))) 0 st (insX (opV w0)))
def KRow (w : World) (bl : Nat) (k : Int × Int × Int) : Prop := w.heap[bl]? = some (.cells #[.int .i64 k.1, .int .i64 k.2.1, .int .i64 k.2.2] 78 (0, 0))

theorem cntV_le (k : Int × Int × Int) : cntV k ≤ 3 := by
  rcases k with ⟨a, b, c⟩
  simp only [cntV]
  by_cases a = 0 <;> by_cases b = 0 <;> by_cases c = 0 <;> simp_all
theorem cntV_stop (K : Int × Int × Int) (k : Nat) (hk : k ≤ cntV K) (h3 : k < 3) (hz : kindAt K k = 0) : k = cntV K := by
  rcases K with ⟨a, b, c⟩
  have h : k = 0 ∨ k = 1 ∨ k = 2 := by omega
  simp only [cntV, kindAt] at *
  rcases h with rfl | rfl | rfl <;> by_cases a = 0 <;> by_cases b = 0 <;> by_cases c = 0 <;> simp_all
theorem cntV_go (K : Int × Int × Int) (k : Nat) (hk : k ≤ cntV K) (h3 : k < 3) (hz : ¬ kindAt K k = 0) : k < cntV K := by
  rcases K with ⟨a, b, c⟩
  have h : k = 0 ∨ k = 1 ∨ k = 2 := by omega
  simp only [cntV, kindAt] at *
  rcases h with rfl | rfl | rfl <;> by_cases a = 0 <;> by_cases b = 0 <;> by_cases c = 0 <;> simp_all
theorem below_drew3 {B : Nat} {w w' : World} (h : Below B w.drew w') : Below B w w' := ⟨h.os, h.tape, h.output, h.size, h.block⟩
theorem opndsD_bd (f : Bool × Bool × Bool × Bool) : (0 ≤ (opndsD f).1 ∧ (opndsD f).1 ≤ 9) ∧ (0 ≤ (opndsD f).2.1 ∧ (opndsD f).2.1 ≤ 9) ∧ (0 ≤ (opndsD f).2.2 ∧ (opndsD f).2.2 ≤ 9) := by
  obtain ⟨a, b, c, d⟩ := f
  cases a <;> cases b <;> cases c <;> cases d <;> decide
theorem opndsV_bd (x : Int) : (0 ≤ (opndsV x).1 ∧ (opndsV x).1 ≤ 9) ∧ (0 ≤ (opndsV x).2.1 ∧ (opndsV x).2.1 ≤ 9) ∧ (0 ≤ (opndsV x).2.2 ∧ (opndsV x).2.2 ≤ 9) := by
  unfold opndsV
  repeat (split; · decide)
  exact opndsD_bd _
theorem kindAt_bd {x : Int} {K : Int × Int × Int} {i : Nat} (hi : i < cntV K) (hK : opndsV x = K) : 1 ≤ kindAt K i ∧ kindAt K i ≤ 9 := by
  have h := opndsV_bd x
  rw [hK] at h
  have h3 := cntV_le K
  obtain ⟨a, b, c⟩ := K
  have hk : i = 0 ∨ i = 1 ∨ i = 2 := by omega
  simp only [cntV, kindAt] at *
  rcases hk with rfl | rfl | rfl <;> by_cases a = 0 <;> by_cases b = 0 <;> by_cases c = 0 <;> simp_all <;> omega
theorem RdAt.self {w : World} {B p bx : Nat} {st : RdSt} (h : RdAt w B p bx st) : RdAt w B p p st := by
  obtain ⟨vl, vb, vn, vw, bm, hp, hB, hl, _, rest⟩ := h
  exact ⟨vl, vb, vn, vw, bm, hp, hB, hl, row_type hl hp (by decide), rest⟩
theorem info37 : (Tryd.prog.info? 37).map (fun i => (i.zero, i.size, i.bytes)) = some (some (.agg #[.int .i64 0, .int .i64 0, .int .i64 0, .int .i64 0, .int .u64 0, .int .i64 0, .int .i64 0]), 7, 56) := by kernel_rfl
theorem mark_call (s : ByteArray) (hs : s.size ≤ 65536) (h1 : 1 ≤ s.size) (line : Int) (bx : Nat) (X : Ins) (r : Except Bool Ins) (h : markV X s = r) (w : World) (hx : InsAt w bx X) :
    Calls Tryd.prog 38 #[.pointer (some ⟨bx, 0, none⟩), .string s, .int .i64 line] w (OpDone r bx line w) := by rw [← h]; exact mark_any s hs h1 line bx X w hx
theorem opndV_st {st st2 : RdSt} {X X2 : Ins} {kd line : Int} {y : ByteArray} (h : opndV st X kd y line = .ok (st2, X2)) : st2.wants.length ≤ st.wants.length + 1 ∧ st2.code.length = st.code.length := by
  unfold opndV at h
  split at h
  · injection h with h; injection h with h _; subst h; simp
  · split at h
    · cases h
    · unfold withSt at h
      split at h
      · injection h with h; injection h with h _; subst h; simp
      · cases h
theorem KRow.cell {w : World} {bl : Nat} {K : Int × Int × Int} (h : KRow w bl K) (k : Nat) (h3 : k < 3) : w.cell? ⟨bl, k, none⟩ = some (.int .i64 (kindAt K k)) := by
  rw [rowCell h]
  match k, h3 with
  | 0, _ => rfl
  | 1, _ => rfl
  | 2, _ => rfl
set_option maxRecDepth 100000 in
set_option maxHeartbeats 4000000 in
theorem line_noop (s : ByteArray) (hs : s.size ≤ 65536) (line : Int) (B p : Nat) (st : RdSt) (w : World) (hrd : RdAt w B p p st) (hB : B ≤ w.heap.size) (w0 : ByteArray) (rest : List ByteArray) (hw : wordsV s = w0 :: rest)
    (h1 : 1 ≤ w0.size) (h2 : w0.size ≤ 65536) (hc : rest ≠ [] ∨ byteAt w0 (w0.size - 1) ≠ 58) (hrl : rest.length ≤ 65536) (hop : opV w0 = 0) :
    Calls Tryd.prog 21 #[.pointer (some ⟨p, 0, none⟩), .string s, .int .i64 line] w (LineDone (.error true) B p line w) := by
  have HR := Lib.hid hrd
  have HW := Lib.hid hw
  have p1 : w0.size - 1 < w0.size := by omega
  have HOP := Lib.hid hop
  obtain ⟨L, hL⟩ : ∃ L, L = rest.length + 1 := ⟨_, rfl⟩
  have hL1 : 1 ≤ L := by omega
  have hL2 : L ≤ 65537 := by omega
  have HLL : Hid (L = rest.length + 1) := hL
  have hcc : ((L : Int) == 1) = false ∨ (((L : Int) == 1) = true ∧ ((w0[w0.size - 1].toNat : Int) == 58) = false) := by
    rcases Nat.eq_zero_or_pos rest.length with h | h
    · refine Or.inr ⟨by rw [beq_iff_eq]; omega, ?_⟩
      rcases hc with hc | hc
      · exact absurd (List.eq_nil_of_length_eq_zero h) hc
      · rw [byteAt_of, beq_eq_false_iff_ne]; exact hc
    · exact Or.inl (by rw [beq_eq_false_iff_ne]; omega)
  clear hrd hw hop hL hc hrl
  go_enter Tryd.func21, Tryd.ntmps21
  go_wp2_with fail
  refine (words_any s hs w).mono ?_
  rintro e w1 ⟨v, rfl, hown, hbel⟩
  rw [HW.out] at hown
  obtain ⟨g, cap, rfl, hBg, hcap, hcm, hrow⟩ := RowAt.of_owns hown (by simp)
  have hLe : (w0 :: rest).length = L := HLL.out.symm
  rw [hLe]
  have t0 : w1.cell? ⟨g, 0, none⟩ = some (.string w0) := hrow.cell (j := 0) rfl
  have hglt : g < w1.heap.size := hrow.lt
  have hcap1 : L ≤ cap := by rw [← hLe]; exact hcap
  clear hown hrow hLe hcap
  rcases hcc with hcc | ⟨hcc, hc2⟩
  all_goals
    go_wp2_with (first | (go_at_call 36; refine (op_any _ _).mono ?_; rintro e w' ⟨rfl, rfl⟩; rw [HOP.out]) | (go_at_call 19; refine (afail_any _ _ _ _).mono ?_; rintro e w' ⟨rfl, rfl⟩))
    go_ret
    exact LineDone.text rfl (by simp) ((hbel.mono hB).alloc (by have := hbel.size; omega) _) (by have := hbel.size; simp; omega)
set_option maxRecDepth 100000 in
set_option maxHeartbeats 4000000 in
theorem line_ins (s : ByteArray) (hs : s.size ≤ 65536) (line : Int) (B p : Nat) (st : RdSt) (w : World) (hrd : RdAt w B p p st) (hB : B ≤ w.heap.size) (w0 : ByteArray) (rest : List ByteArray) (hw : wordsV s = w0 :: rest)
    (h1 : 1 ≤ w0.size) (h2 : w0.size ≤ 65536) (hc : rest ≠ [] ∨ byteAt w0 (w0.size - 1) ≠ 58) (hrl : rest.length ≤ 65536) (hws : ∀ y ∈ rest, 1 ≤ y.size ∧ y.size ≤ 65536) (hop : opV w0 ≠ 0) (hl1 : st.wants.length ≤ 1000000) (hl2 : st.code.length ≤ 1048576) :
    Calls Tryd.prog 21 #[.pointer (some ⟨p, 0, none⟩), .string s, .int .i64 line] w (LineDone (insV st w0 rest line) B p line w) := by
  have HR := Lib.hid hrd
  have HW := Lib.hid hw
  have p1 : w0.size - 1 < w0.size := by omega
  have hop' : (opV w0 == 0) = false := by rw [beq_eq_false_iff_ne]; exact hop
  have HOP := Lib.hid hop
  have HWS := Lib.hid hws
  clear hws
  obtain ⟨K, hK⟩ : ∃ K, K = opndsV (opV w0) := ⟨_, rfl⟩
  have HK := Lib.hid hK
  clear hK
  obtain ⟨L, hL⟩ : ∃ L, L = rest.length + 1 := ⟨_, rfl⟩
  have hL1 : 1 ≤ L := by omega
  have hL2 : L ≤ 65537 := by omega
  have HLL : Hid (L = rest.length + 1) := hL
  have hcc : ((L : Int) == 1) = false ∨ (((L : Int) == 1) = true ∧ ((w0[w0.size - 1].toNat : Int) == 58) = false) := by
    rcases Nat.eq_zero_or_pos rest.length with h | h
    · refine Or.inr ⟨by rw [beq_iff_eq]; omega, ?_⟩
      rcases hc with hc | hc
      · exact absurd (List.eq_nil_of_length_eq_zero h) hc
      · rw [byteAt_of, beq_eq_false_iff_ne]; exact hc
    · exact Or.inl (by rw [beq_eq_false_iff_ne]; omega)
  clear hrd hw hop hL hc hrl
  go_enter Tryd.func21, Tryd.ntmps21
  go_wp2_with fail
  refine (words_any s hs w).mono ?_
  rintro e w1 ⟨v, rfl, hown, hbel⟩
  rw [HW.out] at hown
  obtain ⟨g, cap, rfl, hBg, hcap, hcm, hrow⟩ := RowAt.of_owns hown (by simp)
  have hLe : (w0 :: rest).length = L := HLL.out.symm
  rw [hLe]
  have t0 : w1.cell? ⟨g, 0, none⟩ = some (.string w0) := hrow.cell (j := 0) rfl
  have hglt : g < w1.heap.size := hrow.lt
  have hcap1 : L ≤ cap := by rw [← hLe]; exact hcap
  have hrow0 := hrow
  clear hown hrow hLe hcap
  obtain ⟨x, hx⟩ : ∃ x, x = opV w0 := ⟨_, rfl⟩
  have hcap3 : (cap : Int) ≤ 9223372036854775807 := by unfold maxLen at hcm; omega
  have HROW := Lib.hid hrow0
  have hxb : (x == 0) = false := by rw [hx]; exact hop'
  have HXX := Lib.hid hx

  have HKX : Hid (opndsV x = K) := by show _ = _; rw [hx]; exact HK.out.symm
  clear hx hop' hrow0
  go_upto_region 5 with fail
  go_cut [37] (fun s37 wc => s37 = .bool false ∧ wc = w1)
  case first =>
    rcases hcc with hcc | ⟨hcc, hc2⟩
    all_goals
      go_wp2_with fail
      go_meet
      exact ⟨rfl, rfl⟩
  case rest =>
    obtain ⟨rfl, rfl⟩ := hcut
    clear hcc
    go_upto_region 16 with (first | (go_at_call 36; refine (op_any _ _).mono ?_; rintro e w' ⟨rfl, rfl⟩; rw [← HXX.out]) | fail)
    go_cut [7] (fun s7 wz => ∃ o c7 R : Nat, s7 = .slice (some ⟨g, o, none⟩) R c7 ∧ R + 1 ≤ L ∧ L ≤ R + 1 ∧ (2 ≤ L → o = 1) ∧ R ≤ c7 ∧ c7 ≤ cap ∧ wz = wc.alloc (.cells #[.int .i64 x, .int .i64 0, .int .i64 0, .int .i64 0, .int .u64 0, .int .i64 0, .int .i64 0] 37))
    case first =>
      by_cases hc1 : cap ≤ 1
      · obtain rfl : cap = 1 := by omega
        go_wp2_with fail
        all_goals (go_meet; exact ⟨0, 0, 0, by first | rfl | rw [show L - 1 = 0 from by omega], by omega, by omega, by omega, by omega, by omega, rfl⟩)
      · go_wp2_with fail
        all_goals (go_meet; exact ⟨1, _, L - 1, rfl, by omega, by omega, by omega, by omega, by omega, rfl⟩)
    case rest =>
      obtain ⟨o, c7, R, rfl, hR1, hR2, ho, hc7, hc8, rfl⟩ := hcut
      have hb1 := hbel.size
      obtain ⟨bx, hbx⟩ : ∃ bx, bx = wc.heap.size := ⟨_, rfl⟩
      rw [← hbx]
      have HX1 : Hid (InsAt (wc.alloc (.cells #[.int .i64 x, .int .i64 0, .int .i64 0, .int .i64 0, .int .u64 0, .int .i64 0, .int .i64 0] 37)) bx (insX x)) := by
        rw [hbx]; exact heap_alloc_at
      have HBX := Lib.hid hbx
      clear hbx
      have q0 : (wc.alloc (.cells #[.int .i64 x, .int .i64 0, .int .i64 0, .int .i64 0, .int .u64 0, .int .i64 0, .int .i64 0] 37)).cell? ⟨bx, 0, none⟩ = some (.int .i64 x) := HX1.out.cell 0
      go_upto_region 18 with (first | (go_at_call 27; refine (operands_any _ _).mono ?_; rintro e w' ⟨rfl, hb5⟩; rw [HKX.out]) | fail)
      obtain ⟨bl, hbl⟩ : ∃ bl, bl = w'.heap.size := ⟨_, rfl⟩
      rw [← hbl]
      obtain ⟨wd, hwd⟩ : ∃ wd, w'.alloc (.cells #[.int .i64 K.1, .int .i64 K.2.1, .int .i64 K.2.2] 78) = wd := ⟨_, rfl⟩
      rw [hwd]
      have hbel5 : Below wc.heap.size wc wd := by
        rw [← hwd]
        exact ((((Below.refl _ wc).alloc (Nat.le_refl _) _).trans (hb5.mono (by simp))).alloc (by have := hb5.size; simp at this; omega) _)
      have hxd : InsAt wd bx (insX x) := by
        have h6 : Below (wc.heap.size + 1) (wc.alloc (.cells #[.int .i64 x, .int .i64 0, .int .i64 0, .int .i64 0, .int .u64 0, .int .i64 0, .int .i64 0] 37)) wd := by
          rw [← hwd]
          exact ((hb5.mono (by simp)).alloc (by have := hb5.size; simp at this; omega) _)
        unfold InsAt
        rw [h6.block bx (by rw [HBX.out]; omega)]
        exact HX1.out
      have hkd : KRow wd bl K := by rw [← hwd, hbl]; exact heap_alloc_at
      have HB5 := Lib.hid hbel5
      have HXD := Lib.hid hxd
      have HKD := Lib.hid hkd
      have hbB : B ≤ bx := by rw [HBX.out]; omega
      have HRD : Hid (RdAt wd B p bx st) := ((HR.out.below hbel).fresh bx (by rw [HBX.out]; exact Nat.le_refl _)).below hbel5
      have HRW : Hid (RowAt wd g (w0 :: rest)) := HROW.out.keep (keep_below hbel5)
      clear hbel5 hxd hkd hwd hb5 q0 HX1 hbl
      go_upto_block 0 with fail
      go_cut [13] (fun s13 wz => s13 = .int .i64 (cntV K) ∧ wd = wz)
      case first =>
        go_wp2_with fail
        go_loop [13] (fun n => ∃ k : Nat, k ≤ cntV K ∧ n = .int .i64 k) (fun n => 4 - (intOf n).toNat)
        case atStart => exact ⟨0, Nat.zero_le _, rfl⟩
        case round =>
          obtain ⟨k, hk, rfl⟩ := hrel
          have hk3 := cntV_le K
          by_cases h3 : k < 3
          · have ck := HKD.out.cell k h3
            by_cases hz : kindAt K k = 0
            · have hzb : (kindAt K k != 0) = false := by rw [bne_eq_false_iff_eq]; exact hz
              have hkn : Hid (k = cntV K) := cntV_stop K k hk h3 hz
              clear hz
              go_wp2
              all_goals (go_meet; exact ⟨by rw [hkn.out], rfl⟩)
            · have hzb : (kindAt K k != 0) = true := by rw [bne_iff_ne]; exact hz
              have hkn := cntV_go K k hk h3 hz
              clear hz
              go_wp2
              all_goals
                go_round
                case rel => exact ⟨k + 1, by omega, by go_num⟩
                case measure => simp [intOf]; omega
          · have hkn : Hid (k = cntV K) := by show _ = _; omega
            go_wp2
            all_goals (go_meet; exact ⟨by rw [hkn.out], rfl⟩)
      case rest =>
        obtain ⟨rfl, rfl⟩ := hcut
        obtain ⟨n, hn⟩ : ∃ n, n = cntV K := ⟨_, rfl⟩
        rw [← hn]
        have hn3 : n ≤ 3 := by rw [hn]; exact cntV_le K
        have HNK := Lib.hid hn
        have hRl : rest.length = R := by have := HLL.out; omega
        have HRL := Lib.hid hRl
        clear hn hRl
        go_upto_region 21 with fail
        go_cut [152] (fun s wz => s = .bool (cntBad n rest) ∧ wd = wz)
        case first =>
          by_cases e1 : R = n
          · have b1 : ((R : Int) != (n : Int)) = false := by rw [bne_eq_false_iff_eq]; omega
            have HE : Hid (cntBad n rest = false) := by show _ = _; unfold cntBad; rw [decide_eq_false_iff_not]; intro h; exact h.1 (HRL.out.trans e1)
            clear e1
            go_wp2
            all_goals (go_meet; exact ⟨by rw [HE.out], rfl⟩)
          · have b1 : ((R : Int) != (n : Int)) = true := by rw [bne_iff_ne]; omega
            by_cases e2 : R = n + 1
            · obtain rfl : o = 1 := ho (by omega)
              have hy : (rest)[n]? = some (wordAt rest n) := by
                unfold wordAt; rw [List.getD_eq_getElem?_getD, List.getElem?_eq_getElem (by rw [HRL.out]; omega)]; rfl
              have ys := (HWS.out (wordAt rest n) (List.mem_of_getElem? hy)).1
              have cy : wd.cell? ⟨g, 1 + n, none⟩ = some (.string (wordAt rest n)) := by
                rw [Nat.add_comm]; exact HRW.out.cell (j := n + 1) hy
              have b2 : ((R : Int) != (n : Int) + 1) = false := by rw [bne_eq_false_iff_eq]; omega
              have hnR : n < R := by omega
              have hy0 : 0 < (wordAt rest n).size := by omega
              have HE : Hid (cntBad n rest = decide (byteAt (wordAt rest n) 0 ≠ 33)) := by
                show _ = _; unfold cntBad; rw [decide_eq_decide, HRL.out]; exact ⟨fun h => (h.2.resolve_left (by omega)), fun h => ⟨e1, Or.inr h⟩⟩
              have HY := Lib.hid hy
              clear e1 e2 hy
              by_cases e3 : byteAt (wordAt rest n) 0 = 33
              · have b3 : (((wordAt rest n)[0].toNat : Int) != 33) = false := by rw [byteAt_of, bne_eq_false_iff_eq]; exact e3
                have HE2 : Hid (cntBad n rest = false) := by show _ = _; rw [HE.out, decide_eq_false_iff_not]; exact fun h => h e3
                clear e3
                go_wp2
                all_goals (go_meet; exact ⟨by rw [HE2.out], rfl⟩)
              · have b3 : (((wordAt rest n)[0].toNat : Int) != 33) = true := by rw [byteAt_of, bne_iff_ne]; exact e3
                have HE2 : Hid (cntBad n rest = true) := by show _ = _; rw [HE.out, decide_eq_true_eq]; exact e3
                clear e3
                go_wp2
                all_goals (go_meet; exact ⟨by rw [HE2.out], rfl⟩)
            · have b2 : ((R : Int) != (n : Int) + 1) = true := by rw [bne_iff_ne]; omega
              have HE2 : Hid (cntBad n rest = true) := by show _ = _; unfold cntBad; rw [decide_eq_true_eq, HRL.out]; exact ⟨e1, Or.inl e2⟩
              clear e1 e2
              go_wp2
              all_goals (go_meet; exact ⟨by rw [HE2.out], rfl⟩)
        case rest =>
          obtain ⟨rfl, rfl⟩ := hcut
          have HVAL : Hid (insV st w0 rest line = if cntBad n rest then .error true else insEnd n rest (opndsGo line K rest n 0 st (insX x))) := by
            show _ = _
            unfold insV
            rw [if_neg HOP.out, ← HXX.out, HKX.out, ← HNK.out]
          by_cases hbad : cntBad n rest = true
          · have HV2 : Hid (insV st w0 rest line = .error true) := by show _ = _; rw [HVAL.out, if_pos hbad]
            rw [hbad]
            clear hbad
            go_wp2_with (go_at_call 19; refine (afail_any _ _ _ _).mono ?_; rintro e w' ⟨rfl, rfl⟩)
            go_ret
            exact LineDone.text HV2.out (by simp) ((hbel.mono hB).trans (HB5.out.mono (by omega))) (by have := HB5.out.size; omega)
          · have hgood : cntBad n rest = false := by simpa using hbad
            have HV2 : Hid (insV st w0 rest line = insEnd n rest (opndsGo line K rest n 0 st (insX x))) := by show _ = _; rw [HVAL.out, if_neg hbad]
            have hRn : R = n ∨ R = n + 1 := by
              have h := of_decide_eq_false hgood
              rw [HRL.out] at h
              omega
            clear hbad HVAL
            have hRn1 : n ≤ R := by omega
            have hRn2 : R ≤ n + 1 := by omega
            clear hRn
            have HBW : Hid (Below w.heap.size w wd) := hbel.trans (HB5.out.mono (by omega))
            have hszd := HB5.out.size
            have hws2 : B ≤ wd.heap.size := by omega
            rw [hgood]
            clear hgood
            go_wp2_with fail
            go_loopw [157] (fun s157 wr => ∃ (i : Nat) (st' : RdSt) (X' : Ins), i ≤ n ∧ s157 = .int .i64 i ∧ RdAt wr B p bx st' ∧ InsAt wr bx X' ∧ Below B wd wr ∧ Keep wd wr ∧ st'.wants.length ≤ 1000000 + i ∧ Hid (st'.code.length = st.code.length) ∧ Hid (opndsGo line K rest (n - i) i st' X' = opndsGo line K rest n 0 st (insX x))) (fun s _ => 4 - (intOf s).toNat)
            case atStart => exact ⟨0, st, insX x, by omega, rfl, HRD.out, HXD.out, Below.refl _ _, Keep.refl _, by omega, rfl, rfl⟩
            case round =>
              obtain ⟨i, st', X', hi, rfl, hr1, hx1, hb6, hk6, hwl, HCL, HGO⟩ := hrel
              have hszr := hb6.size
              by_cases hin : i < n
              · have hiR : i < R := by omega
                obtain rfl : o = 1 := ho (by omega)
                have hy : rest[i]? = some (wordAt rest i) := by
                  unfold wordAt; rw [List.getD_eq_getElem?_getD, List.getElem?_eq_getElem (by rw [HRL.out]; omega)]; rfl
                have ys := (HWS.out (wordAt rest i) (List.mem_of_getElem? hy)).2
                have cy : wr.cell? ⟨g, 1 + i, none⟩ = some (.string (wordAt rest i)) := by
                  rw [Nat.add_comm]; exact (HRW.out.keep hk6).cell (j := i + 1) hy
                have ck : wr.cell? ⟨bl, i, none⟩ = some (.int .i64 (kindAt K i)) := KRow.cell (hk6 bl _ 78 _ (Or.inr (Or.inr rfl)) HKD.out) i (by omega)
                obtain ⟨kd, hkd⟩ : ∃ kd, kd = kindAt K i := ⟨_, rfl⟩
                obtain ⟨y, hyw⟩ : ∃ y, y = wordAt rest i := ⟨_, rfl⟩
                rw [← hkd] at ck
                rw [← hyw] at cy ys
                have hkb : 1 ≤ kd ∧ kd ≤ 9 := by rw [hkd]; exact kindAt_bd (by rw [← HNK.out]; exact hin) HKX.out
                have HC := Lib.hid (operand_any y ys kd line hkb.1 hkb.2 B p bx st' X' wr.drew hx1 hr1 hbB (by omega))
                have HGS : Hid (opndsGo line K rest (n - i) i st' X' = match opndV st' X' kd y line with | .ok (st2, X2) => opndsGo line K rest (n - (i + 1)) (i + 1) st2 X2 | .error t => .error t) := by
                  show _ = _
                  rw [show n - i = (n - (i + 1)) + 1 from by omega, opndsGo, ← hkd, ← hyw]
                have HR1 := Lib.hid hr1
                have HX1 := Lib.hid hx1
                have HB6 := Lib.hid hb6
                have HK6 := Lib.hid hk6
                have hy2 : (i : Int) < (R : Int) := by omega
                have hy3 : (0 : Int) ≤ (i : Int) := by omega
                have hy4 : (i : Int) < 3 := by omega
                clear hr1 hx1 hb6 hk6 hkb hkd hyw hy
                go_wp2_with fail
                go_still_tail 9, (by kernel_rfl)
                change wpList _ _ _ _ _ wr.drew
                rcases hov : opndV st' X' kd y line with tt | ⟨st2, X2⟩
                · have HC2 : Hid (Calls Tryd.prog 37 #[.pointer (some ⟨p, 0, none⟩), .pointer (some ⟨bx, 0, none⟩), .int .i64 kd, .string y, .int .i64 line] wr.drew (OpndDone (.error tt) B p bx line wr.drew)) := by
                    have h := HC.out; rw [hov] at h; exact h
                  have HFIN : Hid (insV st w0 rest line = .error tt) := by
                    show _ = _; rw [HV2.out, ← HGO.out, HGS.out, hov]; rfl
                  clear hov HC
                  go_wp2_with (go_at_call 37; refine HC2.out.mono ?_; rintro e w' ⟨v, rfl, ⟨b', inner, rfl, hb', hcell', htx⟩, hbel'⟩)
                  go_ret
                  rw [HFIN.out]
                  exact ⟨_, rfl, ⟨_, _, rfl, hb', hcell', htx⟩, (HBW.out.mono hB).trans (HB6.out.trans (below_drew3 hbel'))⟩
                · have HC2 : Hid (Calls Tryd.prog 37 #[.pointer (some ⟨p, 0, none⟩), .pointer (some ⟨bx, 0, none⟩), .int .i64 kd, .string y, .int .i64 line] wr.drew (OpndDone (.ok (st2, X2)) B p bx line wr.drew)) := by
                    have h := HC.out; rw [hov] at h; exact h
                  have HGS2 : Hid (opndsGo line K rest (n - i) i st' X' = opndsGo line K rest (n - (i + 1)) (i + 1) st2 X2) := by
                    show _ = _; rw [HGS.out, hov]
                  have HST := Lib.hid (opndV_st hov)
                  clear hov HC HGS
                  go_wp2_with (go_at_call 37; refine HC2.out.mono ?_; rintro e w' ⟨rfl, hra, hxa, hba, hka⟩)
                  go_roundw
                  case rel => exact ⟨i + 1, st2, X2, by omega, by go_num, hra, hxa, HB6.out.trans (below_drew3 hba), HK6.out.trans hka, by have := HST.out.1; omega, HST.out.2.trans HCL.out, by show _ = _; rw [← HGS2.out]; exact HGO.out⟩
                  case measure => simp [intOf]; omega
              · obtain rfl : n = i := by omega
                have HGO2 : Hid (opndsGo line K rest n 0 st (insX x) = .ok (st', X')) := by
                  have h := HGO.out; rw [Nat.sub_self, opndsGo] at h; exact h.symm
                have HV3 : Hid (insV st w0 rest line = insPush st' (if n < R then markV X' (wordAt rest n) else .ok X')) := by
                  show _ = _; rw [HV2.out, HGO2.out]; unfold insEnd; rw [HRL.out]
                have HR1 := Lib.hid hr1
                have HX1 := Lib.hid hx1
                have HB6 := Lib.hid ((HBW.out.mono hB).trans hb6)
                have HK6 := Lib.hid hk6
                have HKW : Hid (Keep w wd) := (keep_below hbel).trans (keep_below HB5.out)
                clear hr1 hx1 hb6 hk6 HGO HV2 HGO2
                by_cases hRn : n < R
                · obtain rfl : o = 1 := ho (by omega)
                  have hy : rest[n]? = some (wordAt rest n) := by
                    unfold wordAt; rw [List.getD_eq_getElem?_getD, List.getElem?_eq_getElem (by rw [HRL.out]; omega)]; rfl
                  have ys := HWS.out (wordAt rest n) (List.mem_of_getElem? hy)
                  have cy : wr.cell? ⟨g, 1 + n, none⟩ = some (.string (wordAt rest n)) := by
                    rw [Nat.add_comm]; exact (HRW.out.keep HK6.out).cell (j := n + 1) hy
                  have HV4 : Hid (insV st w0 rest line = insPush st' (markV X' (wordAt rest n))) := by show _ = _; rw [HV3.out, if_pos hRn]
                  obtain ⟨y, hyw⟩ : ∃ y, y = wordAt rest n := ⟨_, rfl⟩
                  rw [← hyw] at cy ys
                  have HV5 : Hid (insV st w0 rest line = insPush st' (markV X' y)) := by show _ = _; rw [hyw]; exact HV4.out
                  clear hyw hy HV3 HV4
                  have hy2 : (n : Int) < (R : Int) := by omega
                  rcases hmv : markV X' y with tt | X2
                  · have HC := Lib.hid (mark_call y ys.2 ys.1 line bx X' _ hmv wr HX1.out)
                    have HFIN : Hid (insV st w0 rest line = .error tt) := by show _ = _; rw [HV5.out, hmv]; rfl
                    clear hmv ys
                    go_wp2_with (go_at_call 38; refine HC.out.mono ?_; rintro e w' ⟨v, rfl, ⟨b', inner, rfl, hb', hcell', htx⟩, hgr'⟩)
                    go_ret
                    rw [HFIN.out]
                    exact ⟨_, rfl, ⟨_, _, rfl, by omega, hcell', htx⟩, HB6.out.trans (below_ins hbB HX1.out.lt hgr')⟩
                  · have HC := Lib.hid (mark_call y ys.2 ys.1 line bx X' _ hmv wr HX1.out)
                    have HFIN : Hid (insV st w0 rest line = .ok { st' with code := st'.code ++ [X2] }) := by show _ = _; rw [HV5.out, hmv]; rfl
                    clear hmv ys
                    go_wp2_with (first | (go_at_call 38; refine HC.out.mono ?_; rintro e w' ⟨rfl, hx2, hgr'⟩) | fail)
                    have HX2 := Lib.hid hx2
                    have HGR := Lib.hid hgr'
                    have hszw := hgr'.size
                    clear hx2 hgr'
                    have RP := (HR1.out.grown HX1.out HGR.out).self
                    obtain ⟨vl, vb, vn, vw, bm, hp, hBp, hll, hne, hbb, hnn, hww, hbm, hm⟩ := RP
                    have q0 : w'.cell? ⟨p, 0, none⟩ = some vl := rowCell hp
                    have g0 : w'.frozen? ⟨p, 0, none⟩ = false := rowFree hp
                    have x0 : w'.cell? ⟨bx, 0, none⟩ = some (.int .i64 X2.op) := (HX2.out).cell 0
                    have x1 : w'.cell? ⟨bx, 1, none⟩ = some (.int .i64 X2.a) := (HX2.out).cell 1
                    have x2 : w'.cell? ⟨bx, 2, none⟩ = some (.int .i64 X2.b) := (HX2.out).cell 2
                    have x3 : w'.cell? ⟨bx, 3, none⟩ = some (.int .i64 X2.c) := (HX2.out).cell 3
                    have x4 : w'.cell? ⟨bx, 4, none⟩ = some (.int .u64 X2.v) := (HX2.out).cell 4
                    have x5 : w'.cell? ⟨bx, 5, none⟩ = some (.int .i64 X2.m) := (HX2.out).cell 5
                    have x6 : w'.cell? ⟨bx, 6, none⟩ = some (.int .i64 X2.wh) := (HX2.out).cell 6
                    have hplt : p < w'.heap.size := (Array.getElem?_eq_some_iff.1 hp).1
                    have hblt : bx < w'.heap.size := (HX2.out).lt
                    have hwp : vl.ownBlock ≠ some p := row_type hll hp (by decide)
                    obtain ⟨i0, hi0, hz0, hz1, hz2⟩ := info_parts info37
                    have HI0 := Lib.hid hi0
                    have HPp := Lib.hid hp
                    have HNe := Lib.hid hne
                    have HBb := Lib.hid hbb
                    have HNn := Lib.hid hnn
                    have HWw := Lib.hid hww
                    have HM3 := Lib.hid hm
                    have hcl : st'.code.length ≤ 1048576 := by have := HCL.out; omega
                    have hBW : B ≤ w'.heap.size := by omega
                    clear hi0 hp hne hbb hnn hww hm
                    go_wp2_with fail
                    go_region_law (first | (refine step_append_lies _ (by rfl) _ _ _ (by rfl) B 37 i0 _ 7 56 Tryd.underlying25 HI0.out hz0 hz1 hz2 rfl (by omega) vl st'.code.length (flatIns st'.code) (by rfl) ((hll.alloc _).drew) ⟨w'.heap.size, 0, none⟩ 1 1 [.int .i64 X2.op, .int .i64 X2.a, .int .i64 X2.b, .int .i64 X2.c, .int .u64 X2.v, .int .i64 X2.m, .int .i64 X2.wh] (by rfl) (by rfl) (World.news_of_block (cs := #[.int .i64 X2.op, .int .i64 X2.a, .int .i64 X2.b, .int .i64 X2.c, .int .u64 X2.v, .int .i64 X2.m, .int .i64 X2.wh]) (t := 37) (fr := (0, 0)) (heap_alloc_new w' _)) (by simp [Value.oneCell']) (by omega) (by unfold maxLen; omega) (by omega) (by simp; omega) (w'.heap.size + 1) (by simp) ?_; intro gg cap4 w9 hown9 hgrow hat hlt; have r4 : w9.cell? ⟨p, 0, none⟩ = some vl := (hgrow.cell_far ⟨p, 0, none⟩ (by simp; omega) (Ne.symm hwp)).trans (by simp [go_sem, World.cell?_alloc_past, hplt, q0]); have r5 : w9.frozen? ⟨p, 0, none⟩ = false := (hgrow.frozen_far ⟨p, 0, none⟩ (by simp; omega) (Ne.symm hwp)).trans (by simp [go_sem, World.frozen?_alloc_past, hplt, g0])))
                    all_goals
                      go_wp2
                      go_ret
                      have hp9 : w9.heap[p]? = some (.cells #[vl, vb, vn, .map (some bm), vw] 60 (0, 0)) := by
                        rw [(grown_of_alloc (grown_of_drew hgrow)).block p hplt (Ne.symm hwp)]; exact HPp.out
                      have R9 := rd_code (y := X2) HPp.out hBp hll HNe.out HBb.out HNn.out HWw.out hbm HM3.out (by simpa [insCells] using hown9) (grown_of_alloc (grown_of_drew hgrow)) (row_type hown9 hp9 (by decide))
                      rw [HFIN.out]
                      exact ⟨rfl, RdP.whole (st := { st' with code := st'.code ++ [X2] }) R9.1, (HB6.out.trans (below_ins hbB HX1.out.lt HGR.out)).trans R9.2.1, ((HKW.out.trans HK6.out).trans (keep_ins HX1.out HGR.out)).trans R9.2.2⟩
                · have HFIN : Hid (insV st w0 rest line = .ok { st' with code := st'.code ++ [X'] }) := by show _ = _; rw [HV3.out, if_neg hRn]; rfl
                  clear HV3
                  have RP := (HR1.out).self
                  obtain ⟨vl, vb, vn, vw, bm, hp, hBp, hll, hne, hbb, hnn, hww, hbm, hm⟩ := RP
                  have q0 : wr.cell? ⟨p, 0, none⟩ = some vl := rowCell hp
                  have g0 : wr.frozen? ⟨p, 0, none⟩ = false := rowFree hp
                  have x0 : wr.cell? ⟨bx, 0, none⟩ = some (.int .i64 X'.op) := (HX1.out).cell 0
                  have x1 : wr.cell? ⟨bx, 1, none⟩ = some (.int .i64 X'.a) := (HX1.out).cell 1
                  have x2 : wr.cell? ⟨bx, 2, none⟩ = some (.int .i64 X'.b) := (HX1.out).cell 2
                  have x3 : wr.cell? ⟨bx, 3, none⟩ = some (.int .i64 X'.c) := (HX1.out).cell 3
                  have x4 : wr.cell? ⟨bx, 4, none⟩ = some (.int .u64 X'.v) := (HX1.out).cell 4
                  have x5 : wr.cell? ⟨bx, 5, none⟩ = some (.int .i64 X'.m) := (HX1.out).cell 5
                  have x6 : wr.cell? ⟨bx, 6, none⟩ = some (.int .i64 X'.wh) := (HX1.out).cell 6
                  have hplt : p < wr.heap.size := (Array.getElem?_eq_some_iff.1 hp).1
                  have hblt : bx < wr.heap.size := (HX1.out).lt
                  have hwp : vl.ownBlock ≠ some p := row_type hll hp (by decide)
                  obtain ⟨i0, hi0, hz0, hz1, hz2⟩ := info_parts info37
                  have HI0 := Lib.hid hi0
                  have HPp := Lib.hid hp
                  have HNe := Lib.hid hne
                  have HBb := Lib.hid hbb
                  have HNn := Lib.hid hnn
                  have HWw := Lib.hid hww
                  have HM3 := Lib.hid hm
                  have hcl : st'.code.length ≤ 1048576 := by have := HCL.out; omega
                  have hBW : B ≤ wr.heap.size := by omega
                  clear hi0 hp hne hbb hnn hww hm
                  go_wp2_with fail
                  go_region_law (first | (refine step_append_lies _ (by rfl) _ _ _ (by rfl) B 37 i0 _ 7 56 Tryd.underlying25 HI0.out hz0 hz1 hz2 rfl (by omega) vl st'.code.length (flatIns st'.code) (by rfl) ((hll.alloc _).drew) ⟨wr.heap.size, 0, none⟩ 1 1 [.int .i64 X'.op, .int .i64 X'.a, .int .i64 X'.b, .int .i64 X'.c, .int .u64 X'.v, .int .i64 X'.m, .int .i64 X'.wh] (by rfl) (by rfl) (World.news_of_block (cs := #[.int .i64 X'.op, .int .i64 X'.a, .int .i64 X'.b, .int .i64 X'.c, .int .u64 X'.v, .int .i64 X'.m, .int .i64 X'.wh]) (t := 37) (fr := (0, 0)) (heap_alloc_new wr _)) (by simp [Value.oneCell']) (by omega) (by unfold maxLen; omega) (by omega) (by simp; omega) (wr.heap.size + 1) (by simp) ?_; intro gg cap4 w9 hown9 hgrow hat hlt; have r4 : w9.cell? ⟨p, 0, none⟩ = some vl := (hgrow.cell_far ⟨p, 0, none⟩ (by simp; omega) (Ne.symm hwp)).trans (by simp [go_sem, World.cell?_alloc_past, hplt, q0]); have r5 : w9.frozen? ⟨p, 0, none⟩ = false := (hgrow.frozen_far ⟨p, 0, none⟩ (by simp; omega) (Ne.symm hwp)).trans (by simp [go_sem, World.frozen?_alloc_past, hplt, g0])))
                  all_goals
                    go_wp2
                    go_ret
                    have hp9 : w9.heap[p]? = some (.cells #[vl, vb, vn, .map (some bm), vw] 60 (0, 0)) := by
                      rw [(grown_of_alloc (grown_of_drew hgrow)).block p hplt (Ne.symm hwp)]; exact HPp.out
                    have R9 := rd_code (y := X') HPp.out hBp hll HNe.out HBb.out HNn.out HWw.out hbm HM3.out (by simpa [insCells] using hown9) (grown_of_alloc (grown_of_drew hgrow)) (row_type hown9 hp9 (by decide))
                    rw [HFIN.out]
                    exact ⟨rfl, RdP.whole (st := { st' with code := st'.code ++ [X'] }) R9.1, HB6.out.trans R9.2.1, (HKW.out.trans HK6.out).trans R9.2.2⟩
end Go.Proofs.YtnoejikcdigceaaDoor

set_option linter.unusedVariables false
set_option linter.unusedSimpArgs false
namespace Go.Proofs.YtnoejikcdigceaaDoor
open Go.RowKit
def labV (st : RdSt) (nm : ByteArray) (line : Int) : Except Bool RdSt :=
  match labFind st.labels nm 0 with
  | some _ => .error true
  | none => if nameV nm then .ok { st with labels := st.labels ++ [(nm, (st.code.length : Int))], lines := st.lines ++ [line] } else .error true
def lineWs (st : RdSt) (line : Int) : List ByteArray → Except Bool RdSt
  | [] => .ok st
  | w0 :: rest => if rest = [] ∧ byteAt w0 (w0.size - 1) = 58 then labV st (w0.extract 0 (w0.size - 1)) line else insV st w0 rest line
/-- What reading a line does. -/
def lineV (st : RdSt) (s : ByteArray) (line : Int) : Except Bool RdSt := lineWs st line (wordsV s)

theorem line_any (s : ByteArray) (hs : s.size ≤ 65536) (line : Int) (B p : Nat) (st : RdSt) (w : World) (hrd : RdAt w B p p st) (hB : B ≤ w.heap.size)
    (h1 : st.wants.length ≤ 1000000) (h2 : st.code.length ≤ 1048576) (h3 : st.labels.length ≤ 1048576) (h4 : st.lines.length ≤ 1048576) :
    Calls Tryd.prog 21 #[.pointer (some ⟨p, 0, none⟩), .string s, .int .i64 line] w (LineDone (lineV st s line) B p line w) := by
  have hs' : s.size ≤ 65536 := by omega
  obtain ⟨hz, hl⟩ := wordsV_size s
  unfold lineV
  rcases hw : wordsV s with _ | ⟨w0, rest⟩
  · exact line_none s hs' line B p st w hrd hB hw
  · rw [hw] at hz hl
    have z0 := hz w0 (by simp)
    have hrl : rest.length ≤ 65536 := by simp at hl; omega
    by_cases hc : rest = [] ∧ byteAt w0 (w0.size - 1) = 58
    · obtain ⟨rfl, hc2⟩ := hc
      have e : lineWs st line [w0] = labV st (w0.extract 0 (w0.size - 1)) line := if_pos ⟨rfl, hc2⟩
      rw [e]
      unfold labV
      rcases hf : labFind st.labels (w0.extract 0 (w0.size - 1)) 0 with _ | j
      · by_cases hn : nameV (w0.extract 0 (w0.size - 1)) = true
        · simp only [hn, if_true]
          exact line_label s hs' line B p st w hrd hB w0 hw z0.1 (by omega) hc2 hf hn h3 h4
        · have hn' : nameV (w0.extract 0 (w0.size - 1)) = false := by simpa using hn
          simp only [hn', Bool.false_eq_true, if_false]
          exact line_badname s hs' line B p st w hrd hB w0 hw z0.1 (by omega) hc2 hf hn'
      · exact line_again s hs' line B p st w hrd hB w0 hw z0.1 (by omega) hc2 j hf
    · have e : lineWs st line (w0 :: rest) = insV st w0 rest line := if_neg hc
      rw [e]
      have hc' : rest ≠ [] ∨ byteAt w0 (w0.size - 1) ≠ 58 := by
        by_cases h : rest = []
        · exact Or.inr fun h2 => hc ⟨h, h2⟩
        · exact Or.inl h
      by_cases hop : opV w0 = 0
      · have e2 : insV st w0 rest line = .error true := if_pos hop
        rw [e2]
        exact line_noop s hs' line B p st w hrd hB w0 rest hw z0.1 (by omega) hc' hrl hop
      · exact line_ins s hs' line B p st w hrd hB w0 rest hw z0.1 (by omega) hc' hrl (fun y hy => ⟨(hz y (by simp [hy])).1, by have := (hz y (by simp [hy])).2; omega⟩) hop h1 h2
end Go.Proofs.YtnoejikcdigceaaDoor

set_option linter.unusedVariables false
set_option linter.unusedSimpArgs false
namespace Go.Proofs.YtnoejikcdigceaaDoor
open Go.RowKit
/-- What holds of a reader between lines. -/
structure RdOk (st : RdSt) : Prop where
  same : st.labels.length = st.lines.length
  want : ∀ x ∈ st.wants, 0 ≤ x.1 ∧ x.1 < st.code.length
  lab : ∀ b ∈ st.labels, 0 ≤ b.2 ∧ b.2 ≤ st.code.length
/-- How much a line adds. -/
structure RdGrow (st st' : RdSt) : Prop where
  code : st'.code.length ≤ st.code.length + 1
  labels : st'.labels.length ≤ st.labels.length + 1
  lines : st'.lines.length ≤ st.lines.length + 1
  wants : st'.wants.length ≤ st.wants.length + 3
theorem opndV_more {st st2 : RdSt} {X X2 : Ins} {kd line : Int} {y : ByteArray} (h : opndV st X kd y line = .ok (st2, X2)) :
    st2.code = st.code ∧ st2.labels = st.labels ∧ st2.lines = st.lines ∧ (st2.wants = st.wants ∨ st2.wants = st.wants ++ [((st.code.length : Int), line, y)]) := by
  unfold opndV at h
  split at h
  · injection h with h; injection h with h _; subst h; exact ⟨rfl, rfl, rfl, Or.inr rfl⟩
  · split at h
    · cases h
    · unfold withSt at h
      split at h
      · injection h with h; injection h with h _; subst h; exact ⟨rfl, rfl, rfl, Or.inl rfl⟩
      · cases h
theorem opndsGo_more (line : Int) (K : Int × Int × Int) (ws : List ByteArray) : ∀ (f i : Nat) (st : RdSt) (X : Ins) (st2 : RdSt) (X2 : Ins), opndsGo line K ws f i st X = .ok (st2, X2) →
    st2.code = st.code ∧ st2.labels = st.labels ∧ st2.lines = st.lines ∧ st2.wants.length ≤ st.wants.length + f ∧ (∀ x ∈ st2.wants, x ∈ st.wants ∨ x.1 = st.code.length)
  | 0, i, st, X, st2, X2, h => by
    unfold opndsGo at h
    injection h with h; injection h with h _; subst h
    exact ⟨rfl, rfl, rfl, by omega, fun x hx => Or.inl hx⟩
  | f + 1, i, st, X, st2, X2, h => by
    unfold opndsGo at h
    split at h
    · rename_i st' X' ho
      obtain ⟨a1, a2, a3, a4⟩ := opndV_more ho
      obtain ⟨b1, b2, b3, b4, b5⟩ := opndsGo_more line K ws f (i + 1) st' X' st2 X2 h
      refine ⟨b1.trans a1, b2.trans a2, b3.trans a3, ?_, fun x hx => ?_⟩
      · rcases a4 with a4 | a4
        · rw [a4] at b4; omega
        · rw [a4] at b4; simp at b4; omega
      · rcases b5 x hx with hx | hx
        · rcases a4 with a4 | a4
          · rw [a4] at hx; exact Or.inl hx
          · rw [a4] at hx
            rcases List.mem_append.1 hx with hx | hx
            · exact Or.inl hx
            · have := List.mem_singleton.1 hx; subst this; exact Or.inr rfl
        · exact Or.inr (by rw [hx, a1])
    · cases h
theorem insV_ok {st st' : RdSt} {w0 : ByteArray} {rest : List ByteArray} {line : Int} (hk : RdOk st) (h : insV st w0 rest line = .ok st') : RdOk st' ∧ RdGrow st st' := by
  unfold insV at h
  split at h
  · cases h
  · split at h
    · cases h
    · rcases hg : opndsGo line (opndsV (opV w0)) rest (cntV (opndsV (opV w0))) 0 st (insX (opV w0)) with t | ⟨st2, X2⟩
      · rw [hg] at h; cases h
      · rw [hg] at h
        obtain ⟨b1, b2, b3, b4, b5⟩ := opndsGo_more _ _ _ _ _ _ _ _ _ hg
        have h3 := cntV_le (opndsV (opV w0))
        have key : ∀ X, RdOk { st2 with code := st2.code ++ [X] } ∧ RdGrow st { st2 with code := st2.code ++ [X] } := by
          intro X
          refine ⟨⟨by rw [b2, b3]; exact hk.same, fun x hx => ?_, fun b hb => ?_⟩, ⟨by simp [b1], by simp [b2], by simp [b3], by simp; omega⟩⟩
          · simp only [List.length_append, List.length_singleton, b1]
            rcases b5 x hx with hx | hx
            · have := hk.want x hx; exact ⟨this.1, by push_cast; omega⟩
            · rw [hx]; exact ⟨by omega, by push_cast; omega⟩
          · simp only [List.length_append, List.length_singleton, b1]
            have hb : b ∈ st.labels := by rw [← b2]; exact hb
            have := hk.lab b hb; exact ⟨this.1, by push_cast; omega⟩
        unfold insEnd insPush at h
        dsimp only at h
        split at h
        · rename_i X _
          injection h with h; subst h; exact key X
        · cases h
theorem lineV_ok {st st' : RdSt} {s : ByteArray} {line : Int} (hk : RdOk st) (h : lineV st s line = .ok st') : RdOk st' ∧ RdGrow st st' := by
  unfold lineV at h
  rcases hw : wordsV s with _ | ⟨w0, rest⟩
  · rw [hw] at h
    unfold lineWs at h; injection h with h; subst h
    exact ⟨hk, ⟨by omega, by omega, by omega, by omega⟩⟩
  · rw [hw] at h
    replace h : (if rest = [] ∧ byteAt w0 (w0.size - 1) = 58 then labV st (w0.extract 0 (w0.size - 1)) line else insV st w0 rest line) = .ok st' := h
    split at h
    · unfold labV at h
      split at h
      · cases h
      · split at h
        · injection h with h; subst h
          refine ⟨⟨by simp [hk.same], hk.want, fun b hb => ?_⟩, ⟨by simp, by simp, by simp, by simp⟩⟩
          rcases List.mem_append.1 hb with hb | hb
          · exact hk.lab b hb
          · have := List.mem_singleton.1 hb; subst this; exact ⟨by dsimp only; omega, by dsimp only; omega⟩
        · cases h
    · exact insV_ok hk h

/-- Line by line; an error with its line. -/
def linesGo : List ByteArray → Int → RdSt → Except (Bool × Int) RdSt
  | [], _, st => .ok st
  | l :: ls, i, st => match lineV st l i with
    | .ok st' => linesGo ls (i + 1) st'
    | .error t => .error (t, i)
/-- The code with a place laid into an instruction. -/
def setV (code : List Ins) (at_ : Nat) (v : Int) : List Ins := code.modify at_ fun X => { X with v := v }
def labAt (l : List (ByteArray × Int)) (j : Nat) : Int := ((l[j]?).map (·.2)).getD 0
/-- The places that were wanted are laid in. -/
def wantsGo (labels : List (ByteArray × Int)) : List (Int × Int × ByteArray) → List Ins → Option (List Ins)
  | [], code => some code
  | x :: xs, code => match labFind labels x.2.2 0 with
    | some j => wantsGo labels xs (setV code x.1.toNat (labAt labels j))
    | none => none
def stNil : RdSt := ⟨[], [], [], []⟩
def parseEnd (st : RdSt) : Option (List Ins × List (ByteArray × Int)) :=
  match wantsGo st.labels st.wants st.code with
  | none => none
  | some code => if 2048 < code.length then none else if st.labels.any (fun b => b.2 == (code.length : Int)) then none else some (code, st.labels)
/-- What asm.Parse reads out of lines; an error, of a text at a line where the first is true. -/
def parseLs (ls : List ByteArray) : Except (Bool × Int) (List Ins × List (ByteArray × Int)) :=
  match linesGo ls 0 stNil with
  | .error t => .error t
  | .ok st => match parseEnd st with
    | some r => .ok r
    | none => .error (false, 0)
def nlB : ByteArray := ⟨#[10]⟩
def cutLines (s : ByteArray) : List ByteArray := Lib.splitB nlB 0 (Lib.countB s nlB) s
def parseV (s : ByteArray) : Except (Bool × Int) (List Ins × List (ByteArray × Int)) := parseLs (cutLines s)
theorem splitB_size (sep : ByteArray) : ∀ (k : Nat) (s : ByteArray), ∀ x ∈ Lib.splitB sep 0 k s, x.size ≤ s.size
  | 0, s, x, hx => by have := List.mem_singleton.1 hx; subst this; exact Nat.le_refl _
  | k + 1, s, x, hx => by
    unfold Lib.splitB at hx
    split at hx
    · have := List.mem_singleton.1 hx; subst this; exact Nat.le_refl _
    · rcases List.mem_cons.1 hx with rfl | hx
      · simp; omega
      · have := splitB_size sep k _ x hx
        simp at this; omega
theorem cutLines_len (s : ByteArray) : (cutLines s).length = Lib.countB s nlB + 1 := Lib.splitB_all nlB (by decide) 0 _ s rfl
theorem cutLines_le (s : ByteArray) : (cutLines s).length ≤ s.size + 1 := by
  rw [cutLines_len]; have := Lib.countB_le nlB (by decide) s.size s (Nat.le_refl _); omega
/-- What asm.Parse hands back. -/
def Parsed (r : Except (Bool × Int) (List Ins × List (ByteArray × Int))) (w : World) (e : Ending) (w' : World) : Prop :=
  match r with
  | .ok (code, labels) => ∃ vl vb, e = .returned (.tuple #[vl, vb, .nilIface]) ∧ w'.ownsRow w.heap.size 37 7 vl code.length (flatIns code) ∧ w'.ownsRow w.heap.size 33 2 vb labels.length (flatLab labels) ∧ Below w.heap.size w w'
  | .error (t, i) => ∃ line v, e = .returned (.tuple #[.slice none 0 0, .slice none 0 0, v]) ∧ ErrAt w' w.heap.size line t v ∧ (t = true → line = i) ∧ Below w.heap.size w w'
theorem stNil_ok : RdOk stNil := ⟨rfl, (fun x hx => by cases hx), (fun x hx => by cases hx)⟩
end Go.Proofs.YtnoejikcdigceaaDoor
