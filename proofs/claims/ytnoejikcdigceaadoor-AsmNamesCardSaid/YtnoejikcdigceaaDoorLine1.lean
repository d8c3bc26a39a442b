/- asm.reader.line at lines without words, and at labels. -/
import Derived.Test.YtnoejikcdigceaaDoorLineB
import Derived.BigQuiet
import Derived.Deep.QuietTactic
import Derived.StillTailTactics
set_option linter.unusedVariables false
set_option linter.unusedSimpArgs false
namespace Go.Proofs.YtnoejikcdigceaaDoor
open Go.RowKit
/-- What comes of a line. -/
def LineDone (r : Except Bool RdSt) (B p : Nat) (line : Int) (w : World) (e : Ending) (w' : World) : Prop :=
  match r with
  | .ok st => e = .returned .nilIface ∧ RdAt w' B p p st ∧ Below B w w' ∧ Keep w w'
  | .error t => ∃ v, e = .returned v ∧ ErrAt w' B line t v ∧ Below B w w'

theorem LineDone.text {r : Except Bool RdSt} {B p : Nat} {line : Int} {w W : World} {n : Nat} (h : r = .error true) (hn : n = W.heap.size) (hb : Below B w W) (hB : B ≤ W.heap.size) :
    LineDone r B p line w (.returned (.iface 68 (.pointer (some ⟨n, 0, none⟩)))) (W.alloc (.cells #[.string ⟨#[97, 115, 109]⟩, .int .i64 line, .iface 41 (.int .i64 6)] 72)) := by
  subst h; subst hn
  exact ⟨_, rfl, ⟨_, _, rfl, hB, heap_alloc_at, fun _ => rfl⟩, hb.alloc hB _⟩
/-- A map is written. -/
def putMap (w : World) (bm : Nat) (es : Array MapEntry) (n : Nat) : World := { w with heap := w.heap.setIfInBounds bm (.map es n) }
theorem mapEnts_snoc (l : List (ByteArray × Int)) (x : ByteArray × Int) : (mapEnts l).push ⟨.string x.1, .int .i64 l.length, l.length⟩ = mapEnts (l ++ [x]) := by
  unfold mapEnts
  simp [List.zipIdx_append]
theorem update_lab (w : World) (bm : Nat) (l : List (ByteArray × Int)) (x : ByteArray × Int) (hm : w.heap[bm]? = some (.map (mapEnts l) l.length)) (hf : labFind l x.1 0 = none) :
    (Instr.mapUpdate 56 (.map (some bm)) (.string x.1) (.int .i64 l.length)).run Tryd.prog w = .ok () (putMap w bm (mapEnts (l ++ [x])) (l.length + 1)) := by
  have hf : Instr.findNow .string (.string x.1) (mapEnts l).toList 0 = some none := by
    have := findNow_lab x.1 l 0
    rw [hf] at this; exact this
  have hk : ∀ b w, (Instr.checkKey b 10000 9 (.string x.1)).run Tryd.prog w = .ok () w := fun b w => by
    unfold Instr.checkKey
    simp [run_underlying Tryd.underlying9]
  unfold Instr.mapUpdate Instr.findKey
  simp only [go_sem, run_underlying Tryd.underlying56, run_underlying Tryd.underlying9, Sem.run_bind, Result.andThen_ok, getObj, Sem.run, hm, hk]
  simp only [Sem.run_pure, Result.andThen_ok, hf]
  simp [setObj, Sem.run, hm, putMap, mapEnts_snoc]
set_option maxRecDepth 100000 in
set_option maxHeartbeats 4000000 in
theorem line_none (s : ByteArray) (hs : s.size ≤ 65536) (line : Int) (B p : Nat) (st : RdSt) (w : World) (hrd : RdAt w B p p st) (hB : B ≤ w.heap.size) (hw : wordsV s = []) :
    Calls Tryd.prog 21 #[.pointer (some ⟨p, 0, none⟩), .string s, .int .i64 line] w (LineDone (.ok st) B p line w) := by
  have HR := Lib.hid hrd
  have HW := Lib.hid hw
  clear hrd hw
  go_enter Tryd.func21, Tryd.ntmps21
  go_wp2_with fail
  refine (words_any s hs w).mono ?_
  rintro e w1 ⟨v, rfl, hown, hbel⟩
  rw [HW.out] at hown
  obtain ⟨a, c, rfl⟩ := owns_slice hown
  have hrd1 := Lib.hid (HR.out.below hbel)
  clear hown
  simp only [List.length_nil]
  go_wp2
  go_ret
  exact ⟨rfl, hrd1.out, hbel.mono hB, keep_below hbel⟩
set_option maxRecDepth 100000 in
set_option maxHeartbeats 4000000 in
theorem line_again (s : ByteArray) (hs : s.size ≤ 65536) (line : Int) (B p : Nat) (st : RdSt) (w : World) (hrd : RdAt w B p p st) (hB : B ≤ w.heap.size) (w0 : ByteArray) (hw : wordsV s = [w0])
    (h1 : 1 ≤ w0.size) (h2 : w0.size ≤ 65536) (hc : byteAt w0 (w0.size - 1) = 58) (j : Nat) (hl : labFind st.labels (w0.extract 0 (w0.size - 1)) 0 = some j) :
    Calls Tryd.prog 21 #[.pointer (some ⟨p, 0, none⟩), .string s, .int .i64 line] w (LineDone (.error true) B p line w) := by
  have HR := Lib.hid hrd
  have HW := Lib.hid hw
  have p1 : w0.size - 1 < w0.size := by omega
  have b1 : ((w0[w0.size - 1].toNat : Int) == 58) = true := by rw [byteAt_of, beq_iff_eq]; exact hc
  have HL := Lib.hid hl
  clear hrd hw hc hl
  go_enter Tryd.func21, Tryd.ntmps21
  go_wp2_with fail
  refine (words_any s hs w).mono ?_
  rintro e w1 ⟨v, rfl, hown, hbel⟩
  rw [HW.out] at hown
  obtain ⟨g, cap, rfl, hBg, hcap, hcm, hrow⟩ := RowAt.of_owns hown (by simp)
  have hrd1 := HR.out.below hbel
  have HRD := Lib.hid hrd1
  obtain ⟨vl, vb, vn, vw, bm, hp, hBp, hll, hne, hbb, hnn, hww, hbm, hm⟩ := hrd1
  have q3 : w1.cell? ⟨p, 3, none⟩ = some (.map (some bm)) := rowCell hp
  have t0 : w1.cell? ⟨g, 0, none⟩ = some (.string w0) := hrow.cell (j := 0) rfl
  have hplt : p < w1.heap.size := (Array.getElem?_eq_some_iff.1 hp).1
  have hglt : g < w1.heap.size := hrow.lt
  have HM := Lib.hid hm
  have hlk : ∀ nq, (Instr.lookup 56 (.map (some bm)) (.string (w0.extract 0 (w0.size - 1))) true).run Tryd.prog (w1.drewN nq) = .ok (.tuple #[.int .i64 j, .bool true]) (w1.drewN nq) := fun nq => by
    rw [lookup_lab (w1.drewN nq) bm st.labels st.labels.length _ HM.out, HL.out]; rfl
  clear hp hll hne hbb hnn hww hm hown hrow
  have hcap1 : 1 ≤ cap := by simpa using hcap
  clear hcap
  simp only [List.length_cons, List.length_nil]
  go_wp2
  have hn0 : (0 : Int) ≤ (w0.size : Int) - 1 := by omega
  have hn1 : ((w0.size : Int) - 1).toNat = w0.size - 1 := by omega
  have hn2 : (w0.size : Int) - 1 ≤ (w0.size : Int) := by omega
  go_quiet (fail)
  clear hlk hn0 hn1 hn2
  go_wp2_with (go_at_call 19; refine (afail_any _ _ _ _).mono ?_; rintro e w' ⟨rfl, rfl⟩)
  go_ret
  exact LineDone.text rfl rfl (below_drewN (hbel.mono hB) _) (by have := hbel.size; simp; omega)
set_option maxRecDepth 100000 in
set_option maxHeartbeats 4000000 in
theorem line_badname (s : ByteArray) (hs : s.size ≤ 65536) (line : Int) (B p : Nat) (st : RdSt) (w : World) (hrd : RdAt w B p p st) (hB : B ≤ w.heap.size) (w0 : ByteArray) (hw : wordsV s = [w0])
    (h1 : 1 ≤ w0.size) (h2 : w0.size ≤ 65536) (hc : byteAt w0 (w0.size - 1) = 58) (hl : labFind st.labels (w0.extract 0 (w0.size - 1)) 0 = none) (hnm : nameV (w0.extract 0 (w0.size - 1)) = false) :
    Calls Tryd.prog 21 #[.pointer (some ⟨p, 0, none⟩), .string s, .int .i64 line] w (LineDone (.error true) B p line w) := by
  have HR := Lib.hid hrd
  have HW := Lib.hid hw
  have p1 : w0.size - 1 < w0.size := by omega
  have b1 : ((w0[w0.size - 1].toNat : Int) == 58) = true := by rw [byteAt_of, beq_iff_eq]; exact hc
  have HL := Lib.hid hl
  have HN := Lib.hid (named_call (w0.extract 0 (w0.size - 1)) (by unfold maxLen; simp; omega) false hnm)
  clear hnm
  clear hrd hw hc hl
  go_enter Tryd.func21, Tryd.ntmps21
  go_wp2_with fail
  refine (words_any s hs w).mono ?_
  rintro e w1 ⟨v, rfl, hown, hbel⟩
  rw [HW.out] at hown
  obtain ⟨g, cap, rfl, hBg, hcap, hcm, hrow⟩ := RowAt.of_owns hown (by simp)
  have hrd1 := HR.out.below hbel
  have HRD := Lib.hid hrd1
  obtain ⟨vl, vb, vn, vw, bm, hp, hBp, hll, hne, hbb, hnn, hww, hbm, hm⟩ := hrd1
  have q3 : w1.cell? ⟨p, 3, none⟩ = some (.map (some bm)) := rowCell hp
  have t0 : w1.cell? ⟨g, 0, none⟩ = some (.string w0) := hrow.cell (j := 0) rfl
  have hplt : p < w1.heap.size := (Array.getElem?_eq_some_iff.1 hp).1
  have hglt : g < w1.heap.size := hrow.lt
  have HM := Lib.hid hm
  have hlk : ∀ nq, (Instr.lookup 56 (.map (some bm)) (.string (w0.extract 0 (w0.size - 1))) true).run Tryd.prog (w1.drewN nq) = .ok (.tuple #[.int .i64 0, .bool false]) (w1.drewN nq) := fun nq => by
    rw [lookup_lab (w1.drewN nq) bm st.labels st.labels.length _ HM.out, HL.out]; rfl
  clear hp hll hne hbb hnn hww hm hown hrow
  have hcap1 : 1 ≤ cap := by simpa using hcap
  clear hcap
  simp only [List.length_cons, List.length_nil]
  go_wp2
  have hn0 : (0 : Int) ≤ (w0.size : Int) - 1 := by omega
  have hn1 : ((w0.size : Int) - 1).toNat = w0.size - 1 := by omega
  have hn2 : (w0.size : Int) - 1 ≤ (w0.size : Int) := by omega
  go_quiet (fail)
  clear hlk
  go_wp2_with (first | (go_at_call 35; refine (HN.out _).mono ?_; rintro e w' ⟨rfl, rfl⟩) | (go_at_call 19; refine (afail_any _ _ _ _).mono ?_; rintro e w' ⟨rfl, rfl⟩))
  go_ret
  exact LineDone.text rfl rfl (below_drewN (hbel.mono hB) _) (by have := hbel.size; simp; omega)
end Go.Proofs.YtnoejikcdigceaaDoor
