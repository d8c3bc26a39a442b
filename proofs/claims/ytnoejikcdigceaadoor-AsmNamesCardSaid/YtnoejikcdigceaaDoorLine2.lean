/- asm.reader.line at a label. -/
import Derived.Test.YtnoejikcdigceaaDoorRdP
import Derived.Deep.AppendLies
import Derived.Deep.RegionLaw
import Derived.Deep.DeepCutAuto
set_option linter.unusedVariables false
set_option linter.unusedSimpArgs false
namespace Go.Proofs.YtnoejikcdigceaaDoor
open Go.RowKit
theorem below_of_drew {B : Nat} {w w' : World} (h : Below B w.drew w') : Below B w w' := ⟨h.os, h.tape, h.output, h.size, h.block⟩
theorem info33 : (Tryd.prog.info? 33).map (fun i => (i.zero, i.size, i.bytes)) = some (some (.agg #[.string ByteArray.empty, .int .i64 0]), 2, 24) := by kernel_rfl
theorem info3 : (Tryd.prog.info? 3).map (fun i => (i.zero, i.size, i.bytes)) = some (some (.int .i64 0), 1, 8) := by kernel_rfl
set_option maxRecDepth 100000 in
set_option maxHeartbeats 4000000 in
theorem line_label (s : ByteArray) (hs : s.size ≤ 65536) (line : Int) (B p : Nat) (st : RdSt) (w : World) (hrd : RdAt w B p p st) (hB : B ≤ w.heap.size) (w0 : ByteArray) (hw : wordsV s = [w0])
    (h1 : 1 ≤ w0.size) (h2 : w0.size ≤ 65536) (hc : byteAt w0 (w0.size - 1) = 58) (hl : labFind st.labels (w0.extract 0 (w0.size - 1)) 0 = none) (hnm : nameV (w0.extract 0 (w0.size - 1)) = true) (hl1 : st.labels.length ≤ 1048576) (hl2 : st.lines.length ≤ 1048576) :
    Calls Tryd.prog 21 #[.pointer (some ⟨p, 0, none⟩), .string s, .int .i64 line] w (LineDone (.ok { st with labels := st.labels ++ [(w0.extract 0 (w0.size - 1), (st.code.length : Int))], lines := st.lines ++ [line] }) B p line w) := by
  have HR := Lib.hid hrd
  have HW := Lib.hid hw
  have p1 : w0.size - 1 < w0.size := by omega
  have b1 : ((w0[w0.size - 1].toNat : Int) == 58) = true := by rw [byteAt_of, beq_iff_eq]; exact hc
  have HL := Lib.hid hl
  have HN := Lib.hid (named_call (w0.extract 0 (w0.size - 1)) (by unfold maxLen; simp; omega) true hnm)
  clear hnm
  clear hrd hw hc hl
  go_enter Tryd.func21, Tryd.ntmps21
  go_wp2_with fail
  refine (words_any s hs w).mono ?_
  rintro e w1 ⟨v, rfl, hown, hbel⟩
  rw [HW.out] at hown
  obtain ⟨g, cap, rfl, hBg, hcap, hcm, hrow⟩ := RowAt.of_owns hown (by simp)
  have hrd1 := HR.out.below hbel
  have HRD := Lib.hid hrd1
  obtain ⟨vl, vb, vn, vw, bm, hp, hBp, hll, hne, hbb, hnn, hww, hbm, hm⟩ := hrd1
  have q3 : w1.cell? ⟨p, 3, none⟩ = some (.map (some bm)) := rowCell hp
  have t0 : w1.cell? ⟨g, 0, none⟩ = some (.string w0) := hrow.cell (j := 0) rfl
  have hplt : p < w1.heap.size := (Array.getElem?_eq_some_iff.1 hp).1
  have hglt : g < w1.heap.size := hrow.lt
  have HM := Lib.hid hm
  have hlk : ∀ nq, (Instr.lookup 56 (.map (some bm)) (.string (w0.extract 0 (w0.size - 1))) true).run Tryd.prog (w1.drewN nq) = .ok (.tuple #[.int .i64 0, .bool false]) (w1.drewN nq) := fun nq => by
    rw [lookup_lab (w1.drewN nq) bm st.labels st.labels.length _ HM.out, HL.out]; rfl
  have HROW := Lib.hid hrow
  clear hp hll hne hbb hnn hww hm hown hrow
  have hcap1 : 1 ≤ cap := by simpa using hcap
  clear hcap
  simp only [List.length_cons, List.length_nil]
  go_wp2
  have hn0 : (0 : Int) ≤ (w0.size : Int) - 1 := by omega
  have hn1 : ((w0.size : Int) - 1).toNat = w0.size - 1 := by omega
  have hn2 : (w0.size : Int) - 1 ≤ (w0.size : Int) := by omega
  go_quiet (fail)
  clear hlk
  obtain ⟨w2, hw2⟩ : ∃ w2, w1.drewN nq = w2 := ⟨_, rfl⟩
  have HB2 : Hid (Below w.heap.size w w2) := by rw [← hw2]; exact below_drewN hbel _
  have hrd2 : RdAt w2 B p p st := by rw [← hw2]; exact HRD.out
  have hrow2 : RowAt w2 g [w0] := by rw [← hw2]; exact HROW.out
  rw [hw2]
  clear hw2 q3 t0 hplt hglt hbm hbel HM HRD HROW hBp
  obtain ⟨vl, vb, vn, vw, bm, hp, hBp, hll, hne, hbb, hnn, hww, hbm, hm⟩ := hrd2.parts
  obtain ⟨ab, cb, rfl⟩ := owns_slice hbb
  have q1 : w2.cell? ⟨p, 1, none⟩ = some (.slice ab st.labels.length cb) := rowCell hp
  have q3 : w2.cell? ⟨p, 3, none⟩ = some (.map (some bm)) := rowCell hp
  have t0 : w2.cell? ⟨g, 0, none⟩ = some (.string w0) := hrow2.cell (j := 0) rfl
  have HPUT := Lib.hid (RdP.put (w := w2.drew) (w0.extract 0 (w0.size - 1), (st.code.length : Int)) hp hBp hll hne hbb hnn hww hbm hm)
  have hmu : (Instr.mapUpdate 56 (.map (some bm)) (.string (w0.extract 0 (w0.size - 1))) (.int .i64 st.labels.length)).run Tryd.prog w2.drew = .ok () (putMap w2.drew bm (mapEnts (st.labels ++ [(w0.extract 0 (w0.size - 1), (st.code.length : Int))])) (st.labels.length + 1)) :=
    update_lab w2.drew bm st.labels (w0.extract 0 (w0.size - 1), (st.code.length : Int)) hm HL.out
  clear hp hll hne hbb hnn hww hbm hm
  go_wp2_with (go_at_call 35; refine (HN.out _).mono ?_; rintro e w' ⟨rfl, rfl⟩)
  go_still_tail 14, (by kernel_rfl)
  change wpList _ _ _ _ _ w2.drew
  go_wp2_with fail
  obtain ⟨w3, hw3⟩ : ∃ w3, putMap w2.drew bm (mapEnts (st.labels ++ [(w0.extract 0 (w0.size - 1), (st.code.length : Int))])) (st.labels.length + 1) = w3 := ⟨_, rfl⟩
  rw [hw3]
  have HP3 : Hid (RdP w3 B p p st.code (st.labels ++ [(w0.extract 0 (w0.size - 1), (st.code.length : Int))]) st.labels st.lines st.wants ∧ Below B w2 w3 ∧ Keep w2 w3) := by rw [← hw3]; exact ⟨HPUT.out.1, below_of_drew HPUT.out.2.1, HPUT.out.2.2⟩
  clear hw3 hmu q1 q3 t0 HPUT
  obtain ⟨vl, vb, vn, vw, bm, hp, hBp, hll, hne, hbb, hnn, hww, hbm, hm⟩ := HP3.out.1
  obtain ⟨ac, cc, rfl⟩ := owns_slice hll
  have q0 : w3.cell? ⟨p, 0, none⟩ = some (.slice ac st.code.length cc) := rowCell hp
  have q1 : w3.cell? ⟨p, 1, none⟩ = some vb := rowCell hp
  have g1 : w3.frozen? ⟨p, 1, none⟩ = false := rowFree hp
  have t0 : w3.cell? ⟨g, 0, none⟩ = some (.string w0) := (hrow2.keep HP3.out.2.2).cell (j := 0) rfl
  have hplt : p < w3.heap.size := (Array.getElem?_eq_some_iff.1 hp).1
  have hglt : g < w3.heap.size := (hrow2.keep HP3.out.2.2).lt
  have hwp : vb.ownBlock ≠ some p := row_type hbb hp (by decide)
  have hwg : vb.ownBlock ≠ some g := by
    obtain ⟨cur, hc1, _⟩ := hrow2.keep HP3.out.2.2
    exact row_type hbb hc1 (by decide)
  have hB3 : B ≤ w3.heap.size := by omega
  obtain ⟨i0, hi0, hz0, hz1, hz2⟩ := info_parts info33
  have HI0 := Lib.hid hi0
  have HPp := Lib.hid hp
  have HLl := Lib.hid hll
  have HNe := Lib.hid hne
  have HNn := Lib.hid hnn
  have HWw := Lib.hid hww
  have HM3 := Lib.hid hm
  have HROW2 := Lib.hid hrow2
  clear hi0 hp hll hne hnn hww hm hrow2
  go_cut [] (fun wc => RdP wc B p p st.code (st.labels ++ [(w0.extract 0 (w0.size - 1), (st.code.length : Int))]) (st.labels ++ [(w0.extract 0 (w0.size - 1), (st.code.length : Int))]) st.lines st.wants ∧ Below B w3 wc ∧ Keep w3 wc)
  case first =>
    go_region_law (first | (refine step_append_lies _ (by rfl) _ _ _ (by rfl) B 33 i0 _ 2 24 Tryd.underlying26 HI0.out hz0 hz1 hz2 rfl (by omega) vb st.labels.length (flatLab st.labels) (by rfl) ((hbb.alloc _).drew) ⟨w3.heap.size, 0, none⟩ 1 1 [.string (w0.extract 0 (w0.size - 1)), .int .i64 st.code.length] (by rfl) (by rfl) (World.news_of_block (cs := #[.string (w0.extract 0 (w0.size - 1)), .int .i64 st.code.length]) (t := 33) (fr := (0, 0)) (heap_alloc_new w3 _)) (by simp [Value.oneCell']) (by omega) (by unfold maxLen; omega) (by omega) (by simp; omega) (w3.heap.size + 1) (by simp) ?_; intro gg cap2 w4 hown4 hgrow hat hlt; have r4 : w4.cell? ⟨p, 1, none⟩ = some vb := (hgrow.cell_far ⟨p, 1, none⟩ (by simp; omega) (Ne.symm hwp)).trans (by simp [go_sem, World.cell?_alloc_past, hplt, q1]); have r5 : w4.frozen? ⟨p, 1, none⟩ = false := (hgrow.frozen_far ⟨p, 1, none⟩ (by simp; omega) (Ne.symm hwp)).trans (by simp [go_sem, World.frozen?_alloc_past, hplt, g1])))
    all_goals (go_wp2_with fail; go_meet; exact (rd_lab (y := (w0.extract 0 (w0.size - 1), (st.code.length : Int))) HPp.out hBp HLl.out HNe.out hbb HNn.out HWw.out hbm HM3.out (by simpa using hown4) (grown_of_alloc (grown_of_drew hgrow))))
  case rest =>
    obtain ⟨w5, hw5⟩ : ∃ w5, wc = w5 := ⟨_, rfl⟩
    subst hw5
    have R := hcut
    clear hcut hbb hwp hwg q0 q1 g1 t0 hplt hglt hbm hz0 hz1 hz2 HI0 HPp HLl HNe HNn HWw HM3
    have HP5 := Lib.hid R
    clear R
    obtain ⟨vl5, vb5, vn5, vwc, bm5, hp5, hBp5, hll5, hne5, hbb5, hnn5, hwwc, hbm5, hm5⟩ := HP5.out.1
    have q2 : wc.cell? ⟨p, 2, none⟩ = some vn5 := rowCell hp5
    have g2 : wc.frozen? ⟨p, 2, none⟩ = false := rowFree hp5
    have hplt5 : p < wc.heap.size := (Array.getElem?_eq_some_iff.1 hp5).1
    have hwp5 : vn5.ownBlock ≠ some p := row_type hnn5 hp5 (by decide)
    have hB5 : B ≤ wc.heap.size := by omega
    obtain ⟨i5, hi5, hy0, hy1, hy2⟩ := info_parts info3
    have HP := Lib.hid hp5
    have HL5 := Lib.hid hll5
    have HNE5 := Lib.hid hne5
    have HBB5 := Lib.hid hbb5
    have HWW5 := Lib.hid hwwc
    have HM5 := Lib.hid hm5
    have HI5 := Lib.hid hi5
    clear hp5 hll5 hne5 hbb5 hwwc hm5 hi5
    go_wp2_with (at_builtin; refine wpList_append_own _ rfl _ _ 57 rfl B 3 i5 (.int .i64 0) 1 8 Tryd.underlying57 HI5.out hy0 hy1 hy2 rfl (by decide) _ _ _ rfl (hnn5.alloc _) ⟨wc.heap.size, 0, none⟩ 1 1 [.int .i64 line] rfl rfl ?_ ?_ ?_ ?_ ?_ ?_)
    · intro j u hj
      match j, hj with
      | 0, hj => simp at hj; subst hj; simp [Addr.add]
    · first | rfl | (intro u hu; simp at hu; subst hu; rfl)
    · unfold maxLen; omega
    · omega
    · simp; omega
    · intro v6 w6 hown6 hgrow6 _
      have r6 : w6.cell? ⟨p, 2, none⟩ = some vn5 := (hgrow6.cell_far ⟨p, 2, none⟩ (by simp; omega) (Ne.symm hwp5)).trans (by simp [go_sem, World.cell?_alloc_past, hplt5, q2])
      have r7 : w6.frozen? ⟨p, 2, none⟩ = false := (hgrow6.frozen_far ⟨p, 2, none⟩ (by simp; omega) (Ne.symm hwp5)).trans (by simp [go_sem, World.frozen?_alloc_past, hplt5, g2])
      obtain ⟨a6, c6, rfl⟩ := owns_slice hown6
      have R6 := rd_line (y := line) HP.out hBp5 HL5.out HNE5.out HBB5.out hnn5 HWW5.out hbm5 HM5.out (by simpa using hown6) (grown_of_alloc hgrow6)
      have HR6 := Lib.hid R6
      clear R6 hown6 hgrow6 hnn5 q2 g2 hplt5
      go_wp2
      go_ret
      have hB2 := (HB2.out.mono hB).trans (HP3.out.2.1.trans (HP5.out.2.1.trans HR6.out.2.1))
      have hK2 := (keep_below HB2.out).trans (HP3.out.2.2.trans (HP5.out.2.2.trans HR6.out.2.2))
      exact ⟨rfl, RdP.whole HR6.out.1, hB2, hK2⟩
end Go.Proofs.YtnoejikcdigceaaDoor
