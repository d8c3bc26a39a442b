/- asm.Parse: contract. -/
import Derived.Test.YtnoejikcdigceaaDoorRowC
import Derived.Deep.RegionLaw
import Derived.Deep.DeepCutAuto
import Derived.StillTailTactics
import Derived.BigQuiet
set_option linter.unusedVariables false
set_option linter.unusedSimpArgs false
namespace Go.Proofs.YtnoejikcdigceaaDoor
open Go.RowKit
theorem rd_setV {w w1 : World} {B p gl cl bm a : Nat} {code : List Ins} {labels : List (ByteArray × Int)} {lines : List Int} {wants : List (Int × Int × ByteArray)} {vb vn vw : Value} (v : Int)
    (hp : w.heap[p]? = some (.cells #[.slice (some ⟨gl, 0, none⟩) code.length cl, vb, vn, .map (some bm), vw] 60 (0, 0))) (hBp : B ≤ p) (hl : w.ownsRow B 37 7 (.slice (some ⟨gl, 0, none⟩) code.length cl) code.length (flatIns code))
    (hb : w.ownsRow B 33 2 vb labels.length (flatLab labels)) (hn : w.ownsRow B 3 1 vn lines.length (flatInt lines)) (hw : w.ownsRow B 64 3 vw wants.length (flatWant wants))
    (hbm : B ≤ bm) (hm : w.heap[bm]? = some (.map (mapEnts labels) labels.length)) (hbl : Below w.heap.size w w1) (ha : a < code.length) :
    RdAt (w1.setCell ⟨gl, a * 7 + 4, none⟩ (.int .u64 v)) B p p ⟨setV code a v, labels, lines, wants⟩ ∧ Below B w (w1.setCell ⟨gl, a * 7 + 4, none⟩ (.int .u64 v)) ∧
      (w1.setCell ⟨gl, a * 7 + 4, none⟩ (.int .u64 v)).cell? ⟨p, 4, none⟩ = some vw := by
  have hl1 := owns_below hl hbl
  have hb1 := owns_below hb hbl
  have hn1 := owns_below hn hbl
  have hw1 := owns_below hw hbl
  have hplt := (Array.getElem?_eq_some_iff.1 hp).1
  have hp1 : w1.heap[p]? = some (.cells #[.slice (some ⟨gl, 0, none⟩) code.length cl, vb, vn, .map (some bm), vw] 60 (0, 0)) := by rw [hbl.block p hplt]; exact hp
  have hm1 : w1.heap[bm]? = some (.map (mapEnts labels) labels.length) := by rw [hbl.block bm (Array.getElem?_eq_some_iff.1 hm).1]; exact hm
  have hpg : p ≠ gl := fun e => by
    have := row_type hl1 hp1 (by decide)
    exact this (by rw [e]; rfl)
  have hmg : bm ≠ gl := fun e => by
    have := row_map hl1 hm1
    exact this (by rw [e]; rfl)
  have hps : (w1.setCell ⟨gl, a * 7 + 4, none⟩ (.int .u64 v)).heap[p]? = some (.cells #[.slice (some ⟨gl, 0, none⟩) code.length cl, vb, vn, .map (some bm), vw] 60 (0, 0)) := by
    rw [setCell_block (by simpa using hpg)]; exact hp1
  have hl2 : (w1.setCell ⟨gl, a * 7 + 4, none⟩ (.int .u64 v)).ownsRow B 37 7 (.slice (some ⟨gl, 0, none⟩) (setV code a v).length cl) (setV code a v).length (flatIns (setV code a v)) := by
    rw [setV_len, ← flatIns_set code a v ha]
    exact owns_setCell hl1 (by rw [flatIns_len]; omega) _
  refine ⟨⟨_, vb, vn, vw, bm, by rw [hps, setV_len], hBp, hl2, row_type hl2 hps (by decide), ?_, ?_, ?_, hbm, ?_⟩, ?_, rowCell hps⟩
  · exact ownsRow_setCell_other hb1 (by rcases rows_ne hb1 hl1 (by decide) with h | h
                                        · rw [h]; simp
                                        · exact h) _
  · exact ownsRow_setCell_other hn1 (by rcases rows_ne hn1 hl1 (by decide) with h | h
                                        · rw [h]; simp
                                        · exact h) _
  · exact ownsRow_setCell_other hw1 (by rcases rows_ne hw1 hl1 (by decide) with h | h
                                        · rw [h]; simp
                                        · exact h) _
  · rw [setCell_block (by simpa using hmg)]; exact hm1
  · have hg := hl.lt gl rfl
    exact (hbl.mono (by omega)).setCell (by simpa using hg.1) _
theorem alloc_at' {W : World} {o : Obj} {n : Nat} (h : n = W.heap.size) : (W.alloc o).heap[n]? = some o := by subst h; exact heap_alloc_at
set_option maxRecDepth 100000 in
set_option maxHeartbeats 4000000 in
theorem parse_any (s : ByteArray) (hs : s.size ≤ 65536) (m : Int) (w : World) (hm : w.cell? ⟨1, 0, none⟩ = some (.int .i64 m)) :
    Calls Tryd.prog 10 #[.string s] w (Parsed (parseV s) w) := by
  have hmm := @run_makeMap Tryd.prog
  have h1lt : 1 < w.heap.size := World.block_lt_of_cell? w _ hm
  obtain ⟨W1, hW1⟩ : ∃ W1 : World, W1 = (w.alloc (.map #[] 0)).alloc (.cells #[.slice none 0 0, .slice none 0 0, .slice none 0 0, .map (some w.heap.size), .slice none 0 0] 60) := ⟨_, rfl⟩
  have hm1 : W1.cell? ⟨1, 0, none⟩ = some (.int .i64 m) := by rw [hW1]; rw [World.cell?_alloc_past _ _ _ (by simp; omega), World.cell?_alloc_past _ _ _ h1lt]; exact hm
  have HSP := Lib.hid (Tryd.strings_Split s nlB m W1 (by omega) hm1 (by decide))
  have HW1 := Lib.hid hW1
  clear hm hm1 hW1
  go_enter Tryd.func10, Tryd.ntmps10
  go_wp2_with fail
  rw [← HW1.out]
  refine HSP.out.mono ?_
  rintro e W2 ⟨rfl, hW2⟩
  obtain ⟨ls, hls⟩ : ∃ ls, ls = cutLines s := ⟨_, rfl⟩
  have hN : Lib.countB s nlB + 1 = ls.length := by rw [hls]; exact (cutLines_len s).symm
  have hlen : ls.length ≤ 65537 := by rw [hls]; have := cutLines_le s; omega
  have hsz : Hid (∀ x ∈ ls, x.size ≤ 65536) := by
    intro x hx; rw [hls] at hx; have := splitB_size nlB _ s x hx; omega
  have HPV : Hid (parseV s = parseLs ls) := by show _ = _; rw [hls]; rfl
  have hsz1 : W1.heap.size = w.heap.size + 2 := by rw [HW1.out]; simp
  have hrow : RowAt W2 W1.heap.size ls := by
    refine ⟨_, by rw [hW2]; exact heap_alloc_at, fun j x hj => ?_⟩
    rw [hls] at hj
    simpa [cutLines] using hj
  have hb1 : Below w.heap.size w W1 := by rw [HW1.out]; exact ((Below.refl _ _).alloc (Nat.le_refl _) _).alloc (by simp) _
  have hb2 : Below w.heap.size w W2 := by rw [hW2]; exact hb1.alloc (by omega) _
  have hrd : RdAt W2 w.heap.size (w.heap.size + 1) (w.heap.size + 1) stNil := by
    refine ⟨.slice none 0 0, .slice none 0 0, .slice none 0 0, .slice none 0 0, w.heap.size, ?_, by omega, World.ownsRow_nil _ _ _ _, by simp [Value.ownBlock], World.ownsRow_nil _ _ _ _, World.ownsRow_nil _ _ _ _, World.ownsRow_nil _ _ _ _, Nat.le_refl _, ?_⟩
    · rw [hW2, heap_alloc_lt (by omega), HW1.out, show w.heap.size + 1 = (w.alloc (.map #[] 0)).heap.size from by simp]
      exact heap_alloc_at
    · rw [hW2, heap_alloc_lt (by omega), HW1.out, heap_alloc_lt (by simp)]
      exact heap_alloc_at
  rw [hN]
  obtain ⟨g, hg⟩ : ∃ g, g = W1.heap.size := ⟨_, rfl⟩
  rw [← hg] at hrow ⊢
  obtain ⟨p, hp⟩ : ∃ p, p = w.heap.size + 1 := ⟨_, rfl⟩
  rw [← hp] at hrd
  obtain ⟨N, hNl⟩ : ∃ N, N = ls.length := ⟨_, rfl⟩
  rw [← hNl] at hlen ⊢
  have HNL := Lib.hid hNl
  have HROW := Lib.hid hrow
  have HRD := Lib.hid hrd
  have HB2 := Lib.hid hb2
  have hpB : w.heap.size ≤ p := by omega
  have HPP := Lib.hid hp
  clear hW2 hls hN hsz1 hrow hb1 hb2 hrd hg HW1 HSP hNl hp hmm
  try rw [← HPP.out]
  go_wp2_with fail
  try rw [← HPP.out]
  go_loopw [28] (fun s28 wr => ∃ (k : Nat) (st : RdSt), k ≤ N ∧ s28 = .int .i64 k ∧ RdAt wr w.heap.size p p st ∧ Hid (RdOk st) ∧ st.code.length ≤ k ∧ st.labels.length ≤ k ∧ st.lines.length ≤ k ∧ st.wants.length ≤ 3 * k ∧ Below w.heap.size w wr ∧ RowAt wr g ls ∧ Hid (linesGo (ls.drop k) k st = linesGo ls 0 stNil)) (fun s _ => N - (intOf s).toNat)
  case atStart => exact ⟨0, stNil, by omega, rfl, HRD.out, stNil_ok, by simp [stNil], by simp [stNil], by simp [stNil], by simp [stNil], HB2.out, HROW.out, rfl⟩
  case round =>
    obtain ⟨k, st, hk, rfl, hr1, HOK, hc1, hc2, hc3, hc4, hb, hrw, HGO⟩ := hrel
    by_cases hkN : k < N
    · have hy : ls[k]? = some (wordAt ls k) := by
        unfold wordAt; rw [List.getD_eq_getElem?_getD, List.getElem?_eq_getElem (by rw [← HNL.out]; omega)]; rfl
      have hys := hsz.out (wordAt ls k) (List.mem_of_getElem? hy)
      have cy : wr.cell? ⟨g, k, none⟩ = some (.string (wordAt ls k)) := hrw.cell hy
      have HDR : Hid (ls.drop k = wordAt ls k :: ls.drop (k + 1)) := by
        show _ = _
        rw [List.drop_eq_getElem_cons (by rw [← HNL.out]; omega)]
        congr 1
        rw [List.getElem?_eq_getElem (by rw [← HNL.out]; omega)] at hy
        exact Option.some.inj hy
      obtain ⟨y, hyw⟩ : ∃ y, y = wordAt ls k := ⟨_, rfl⟩
      rw [← hyw] at cy hys HDR
      have HC := Lib.hid (line_any y hys k w.heap.size p st wr hr1 (by have := hb.size; omega) (by omega) (by omega) (by omega) (by omega))
      have HB := Lib.hid hb
      have HRW := Lib.hid hrw
      clear hy hyw hr1 hb hrw
      rcases hlv : lineV st y k with tt | st2
      · have HC2 : Hid (Calls Tryd.prog 21 #[.pointer (some ⟨p, 0, none⟩), .string y, .int .i64 k] wr (LineDone (.error tt) w.heap.size p k wr)) := by
          have h := HC.out; rw [hlv] at h; exact h
        have HFIN : Hid (parseV s = .error (tt, (k : Int))) := by
          show _ = _
          rw [HPV.out]; unfold parseLs; rw [← HGO.out, HDR.out, linesGo, hlv]
        clear hlv HC
        go_wp2_with (go_at_call 21; refine HC2.out.mono ?_; rintro e w' ⟨v, rfl, ⟨b', inner, rfl, hb', hcell', htx⟩, hbel'⟩)
        go_ret3
        rw [HFIN.out]
        exact ⟨_, _, rfl, ⟨_, _, rfl, hb', hcell', htx⟩, fun _ => rfl, HB.out.trans hbel'⟩
      · have HC2 : Hid (Calls Tryd.prog 21 #[.pointer (some ⟨p, 0, none⟩), .string y, .int .i64 k] wr (LineDone (.ok st2) w.heap.size p k wr)) := by
          have h := HC.out; rw [hlv] at h; exact h
        have HGS : Hid (linesGo (ls.drop (k + 1)) ((k : Int) + 1) st2 = linesGo ls 0 stNil) := by
          show _ = _; rw [← HGO.out, HDR.out, linesGo, hlv]
        have HO2 := Lib.hid (lineV_ok HOK.out hlv)
        clear hlv HC
        go_wp2_with (go_at_call 21; refine HC2.out.mono ?_; rintro e w' ⟨rfl, hra, hba, hka⟩)
        go_roundw
        case rel => exact ⟨k + 1, st2, by omega, by go_num, hra, HO2.out.1, by have := HO2.out.2.code; omega, by have := HO2.out.2.labels; omega, by have := HO2.out.2.lines; omega, by have := HO2.out.2.wants; omega, HB.out.trans hba, HRW.out.keep hka, by show _ = _; rw [← HGS.out]; congr 1⟩
        case measure => simp [intOf]; omega
    · have HL : Hid (linesGo ls 0 stNil = .ok st) := by
        show _ = _
        rw [← HGO.out, List.drop_eq_nil_of_le (by rw [← HNL.out]; omega)]; rfl
      have HRD1 := Lib.hid hr1
      have HB := Lib.hid hb
      have hbs := hb.size
      clear hr1 hb hrw HGO HRD HROW HB2
      obtain ⟨vl, vb, vn, vw, bm, hp, hBp, hll, hne, hbb, hnn, hww, hbm, hm⟩ := HRD1.out.parts
      obtain ⟨aw, cw, rfl⟩ := owns_slice hww
      have q4 : wr.cell? ⟨p, 4, none⟩ = some (.slice aw st.wants.length cw) := rowCell hp
      clear hp hBp hll hne hbb hnn hbm hm
      go_wp2_with fail
      obtain ⟨nW, hnW⟩ : ∃ nW, nW = st.wants.length := ⟨_, rfl⟩
      rw [← hnW] at q4 hww hc4 ⊢
      have HNW := Lib.hid hnW
      clear hnW hww
      go_loopw [46] (fun s46 wz => ∃ (j : Nat) (code : List Ins), j ≤ nW ∧ s46 = .int .i64 j ∧ RdAt wz w.heap.size p p { st with code := code } ∧ wz.cell? ⟨p, 4, none⟩ = some (.slice aw nW cw) ∧ Hid (code.length = st.code.length) ∧ Below w.heap.size w wz ∧ Hid (wantsGo st.labels (st.wants.drop j) code = wantsGo st.labels st.wants st.code)) (fun s _ => nW - (intOf s).toNat)
      case atStart => exact ⟨0, st.code, by omega, rfl, HRD1.out, q4, rfl, HB.out, rfl⟩
      case round =>
        obtain ⟨j, code, hj, rfl, hr2, hq4, HCL, hb3, HWG⟩ := hrel
        by_cases hjN : j < nW
        · obtain ⟨vl, vb, vn, vw, bm, hp, hBp, hll, hne, hbb, hnn, hww, hbm, hm⟩ := hr2.parts
          have evw : vw = .slice aw nW cw := by
            have := rowCell (i := 4) hp; rw [hq4] at this; exact (Option.some.inj this).symm
          subst evw
          have hx : st.wants[j]? = some (st.wants[j]'(by rw [← HNW.out]; exact hjN)) := List.getElem?_eq_getElem _
          obtain ⟨x, hxx⟩ : ∃ x, x = st.wants[j]'(by rw [← HNW.out]; exact hjN) := ⟨_, rfl⟩
          rw [← hxx] at hx
          have hxm : x ∈ st.wants := List.mem_of_getElem? hx
          have hxb := HOK.out.want x hxm
          obtain ⟨gw, cw2, hgw⟩ := owns_some hww (by simp only [← HNW.out]; omega)
          injection hgw with hgw1 hgw2 hgw3
          subst hgw1
          clear hgw2 hgw3
          obtain ⟨k1, k2, k3⟩ := flatWant_cells st.wants j x hx
          have hww' : wr.ownsRow w.heap.size 64 3 (.slice (some ⟨gw, 0, none⟩) nW cw) nW (flatWant st.wants) := by simpa only [← HNW.out] using hww
          have c1 : wr.cell? ⟨gw, j * 3, none⟩ = some (.int .i64 x.1) := owns_cell hww' k1
          have c2 : wr.cell? ⟨gw, j * 3 + 1, none⟩ = some (.int .i64 x.2.1) := owns_cell hww' k2
          have c3 : wr.cell? ⟨gw, j * 3 + 2, none⟩ = some (.string x.2.2) := owns_cell hww' k3
          have hgwlt : gw < wr.heap.size := (hww'.lt gw rfl).2
          have hplt : p < wr.heap.size := (Array.getElem?_eq_some_iff.1 hp).1
          have q0 : wr.cell? ⟨p, 0, none⟩ = some vl := rowCell hp
          have q1 : wr.cell? ⟨p, 1, none⟩ = some vb := rowCell hp
          have q3 : wr.cell? ⟨p, 3, none⟩ = some (.map (some bm)) := rowCell hp
          have hbmlt : bm < wr.heap.size := (Array.getElem?_eq_some_iff.1 hm).1
          have hcap : nW ≤ cw := by obtain ⟨_, _, h, _⟩ := owns_block hww'; exact h
          have hlk : ∀ nq, (Instr.lookup 56 (.map (some bm)) (.string x.2.2) true).run Tryd.prog ((wr.alloc (.cells #[.int .i64 x.1, .int .i64 x.2.1, .string x.2.2] 64)).drewN nq) = .ok (foundV (labFind st.labels x.2.2 0)) ((wr.alloc (.cells #[.int .i64 x.1, .int .i64 x.2.1, .string x.2.2] 64)).drewN nq) := fun nq =>
            lookup_lab _ bm st.labels st.labels.length _ (by show (wr.alloc _).heap[bm]? = _; rw [heap_alloc_lt hbmlt]; exact hm)
          have HDR : Hid (st.wants.drop j = x :: st.wants.drop (j + 1)) := by
            show _ = _
            rw [List.drop_eq_getElem_cons (by rw [← HNW.out]; exact hjN), hxx]
          have HP := Lib.hid hp
          have HLL := Lib.hid hll
          have HNE := Lib.hid hne
          have HBB := Lib.hid hbb
          have HNN := Lib.hid hnn
          have HWW := Lib.hid hww
          have HM := Lib.hid hm
          have HB3 := Lib.hid hb3
          have HR2 := Lib.hid hr2
          have hB4 := hb3.size
          clear hp hll hne hbb hnn hww hm hb3 hr2 k1 k2 k3 hx hxx hxm hww'
          rcases hlf : labFind st.labels x.2.2 0 with _ | i
          · rw [hlf] at hlk
            have HFIN : Hid (parseV s = .error (false, 0)) := by
              show _ = _
              rw [HPV.out]; unfold parseLs; rw [HL.out]
              have e : wantsGo st.labels st.wants st.code = none := by rw [← HWG.out, HDR.out, wantsGo, hlf]
              dsimp only
              unfold parseEnd; rw [e]
            clear hlf
            unfold foundV at hlk
            go_wp2_with fail
            go_quiet (fail)
            clear hlk
            go_wp2_with (go_at_call 19; refine (afail_any _ _ _ _).mono ?_; rintro e w' ⟨rfl, rfl⟩)
            go_ret3
            rw [HFIN.out]
            exact ⟨_, _, rfl, ⟨_, _, rfl, by omega, alloc_at' (by simp), (fun h => by cases h)⟩, (fun h => by cases h), ((below_drewN (HB3.out.alloc (by omega) _) _).alloc (by simp; omega) _)⟩
          · rw [hlf] at hlk
            unfold foundV at hlk
            have hib := labFind_lt _ _ _ _ hlf
            obtain ⟨gb, cb, rfl⟩ := owns_some HBB.out (by simp only; omega)
            have hly : st.labels[i]? = some (st.labels[i]'(by omega)) := List.getElem?_eq_getElem _
            obtain ⟨y, hyy⟩ : ∃ y, y = st.labels[i]'(by omega) := ⟨_, rfl⟩
            rw [← hyy] at hly
            have hyb := HOK.out.lab y (List.mem_of_getElem? hly)
            have cb1 : wr.cell? ⟨gb, i * 2 + 1, none⟩ = some (.int .i64 y.2) := owns_cell HBB.out (flatLab_cells st.labels i y hly).2
            have hgblt : gb < wr.heap.size := (HBB.out.lt gb rfl).2
            obtain ⟨a, ha⟩ := Int.eq_ofNat_of_zero_le hxb.1
            have hac : a < code.length := by have := HCL.out; omega
            obtain ⟨gl, cl, rfl⟩ := owns_some HLL.out (by simp only; omega)
            have hX : code[a]? = some (code[a]'hac) := List.getElem?_eq_getElem _
            have cl4 : wr.cell? ⟨gl, a * 7 + 4, none⟩ = some (.int .u64 (code[a]'hac).v) := owns_cell HLL.out (flatIns_v code a _ hX)
            have fl4 : wr.frozen? ⟨gl, a * 7 + 4, none⟩ = false := owns_free HLL.out _
            have hgllt : gl < wr.heap.size := (HLL.out.lt gl rfl).2
            have HLAB : Hid (labAt st.labels i = y.2) := by show _ = _; unfold labAt; rw [hly]; rfl
            have HAA := Lib.hid ha
            rw [ha] at c1 hlk
            have hi2 : (i : Int) < (st.labels.length : Int) := by omega
            have hi3 : (a : Int) < (code.length : Int) := by omega
            clear hly hyy hX ha
            go_wp2_with fail
            go_quiet (fail)
            clear hlk
            have hy0 : 0 ≤ y.2 := hyb.1
            have hy1 : y.2 ≤ 18446744073709551615 := by omega
            obtain ⟨W3, hW3⟩ : ∃ W3, (wr.alloc (.cells #[.int .i64 a, .int .i64 x.2.1, .string x.2.2] 64)).drewN nq = W3 := ⟨_, rfl⟩
            have EC : ∀ b o, b < wr.heap.size → W3.cell? ⟨b, o, none⟩ = wr.cell? ⟨b, o, none⟩ := by
              intro b o hb; rw [← hW3]; exact World.cell?_alloc_past _ _ _ hb
            have EF : ∀ b o, b < wr.heap.size → W3.frozen? ⟨b, o, none⟩ = wr.frozen? ⟨b, o, none⟩ := by
              intro b o hb; rw [← hW3]; exact World.frozen?_alloc_past _ _ _ hb
            have r0 := (EC p 0 hplt).trans q0
            have r1 := (EC p 1 hplt).trans q1
            have rb := (EC gb (i * 2 + 1) hgblt).trans cb1
            have rl := (EC gl (a * 7 + 4) hgllt).trans cl4
            have rf := (EF gl (a * 7 + 4) hgllt).trans fl4
            have rw0 : W3.cell? ⟨wr.heap.size, 0, none⟩ = some (.int .i64 a) := by
              rw [← hW3]; exact rowCell (c := #[.int .i64 a, .int .i64 x.2.1, .string x.2.2]) (t := 64) heap_alloc_at
            have HBW : Hid (Below wr.heap.size wr W3) := by rw [← hW3]; exact below_drewN ((Below.refl _ _).alloc (Nat.le_refl _) _) _
            have hgl3 : gl < W3.heap.size := by have := HBW.out.size; omega
            rw [hW3]
            clear hW3 EC EF q0 q1 q3 c1 c2 c3 cb1 cl4 fl4
            go_wp2_with fail
            go_still_tail 17, (by kernel_rfl)
            change wpList _ _ _ _ _ W3.drew
            have R := rd_setV (a := a) y.2 HP.out hBp HLL.out HBB.out HNN.out HWW.out hbm HM.out HBW.out hac
            have HRR := Lib.hid R
            clear R r0 r1 rb
            go_wp2
            go_roundw
            case rel => exact ⟨j + 1, setV code a y.2, by omega, by go_num, HRR.out.1, HRR.out.2.2, by show _ = _; rw [setV_len]; exact HCL.out, HB3.out.trans (HRR.out.2.1).drew, by
              show _ = _
              rw [← HWG.out, HDR.out, wantsGo, hlf, HAA.out, ← HLAB.out]; rfl⟩
            case measure => simp [intOf]; omega
        · have HWE : Hid (wantsGo st.labels st.wants st.code = some code) := by
            show _ = _; rw [← HWG.out, List.drop_eq_nil_of_le (by rw [← HNW.out]; omega)]; rfl
          have HR2 := Lib.hid hr2
          have HB3 := Lib.hid hb3
          have hB4 := hb3.size
          obtain ⟨vl, vb, vn, vw, bm, hp, hBp, hll, hne, hbb, hnn, hww, hbm, hm⟩ := hr2.parts
          obtain ⟨al, cl, rfl⟩ := owns_slice hll
          obtain ⟨ab, cb, rfl⟩ := owns_slice hbb
          have q0 : wr.cell? ⟨p, 0, none⟩ = some (.slice al code.length cl) := rowCell hp
          have q1 : wr.cell? ⟨p, 1, none⟩ = some (.slice ab st.labels.length cb) := rowCell hp
          clear hr2 hb3 hq4 HWG hp hBp hll hne hbb hnn hww hbm hm
          obtain ⟨nC, hnC⟩ : ∃ nC, nC = code.length := ⟨_, rfl⟩
          rw [← hnC] at q0
          have HNC := Lib.hid hnC
          clear hnC
          have HPE : Hid (parseV s = match parseEnd st with | some r => .ok r | none => .error (false, 0)) := by
            show _ = _
            rw [HPV.out]; unfold parseLs; rw [HL.out]; rfl
          by_cases hbig : 2048 < nC
          · have HFIN : Hid (parseV s = .error (false, 0)) := by
              show _ = _
              rw [HPE.out]; unfold parseEnd; rw [HWE.out]; dsimp only; rw [if_pos (by rw [← HNC.out]; exact hbig)]
            go_wp2_with (go_at_call 19; refine (afail_any _ _ _ _).mono ?_; rintro e w' ⟨rfl, rfl⟩)
            go_ret3
            rw [HFIN.out]
            exact ⟨_, _, rfl, ⟨_, _, rfl, by omega, alloc_at' (by simp), (fun h => by cases h)⟩, (fun h => by cases h), (HB3.out.alloc (by omega) _)⟩
          · have HPE2 : Hid (parseEnd st = if st.labels.any (fun b => b.2 == (code.length : Int)) then none else some (code, st.labels)) := by
              show _ = _
              unfold parseEnd; rw [HWE.out]; dsimp only; rw [if_neg (by rw [← HNC.out]; exact hbig)]
            go_wp2_with fail
            obtain ⟨nL, hnL⟩ : ∃ nL, nL = st.labels.length := ⟨_, rfl⟩
            rw [← hnL] at q1 hc2 ⊢
            have HNLb := Lib.hid hnL
            clear hnL
            go_loopw [97] (fun s97 wz => ∃ (i : Nat), i ≤ nL ∧ s97 = .int .i64 i ∧ RdAt wz w.heap.size p p { st with code := code } ∧ wz.cell? ⟨p, 1, none⟩ = some (.slice ab nL cb) ∧ Below w.heap.size w wz ∧ Hid (st.labels.any (fun b => b.2 == (code.length : Int)) = (st.labels.drop i).any (fun b => b.2 == (code.length : Int)))) (fun s _ => nL - (intOf s).toNat)
            case atStart => exact ⟨0, by omega, rfl, HR2.out, q1, HB3.out, rfl⟩
            case round =>
              obtain ⟨i, hi, rfl, hr3, hq1, hb5, HAN⟩ := hrel
              clear q0 q1
              by_cases hin : i < nL
              · obtain ⟨vl, vb, vn, vw, bm, hp, hBp, hll, hne, hbb, hnn, hww, hbm, hm⟩ := hr3.parts
                have evb : vb = .slice ab nL cb := by
                  have := rowCell (i := 1) hp; rw [hq1] at this; exact (Option.some.inj this).symm
                subst evb
                obtain ⟨al3, cl3, rfl⟩ := owns_slice hll
                obtain ⟨gb, cb2, hgb⟩ := owns_some hbb (by simp only [← HNLb.out]; omega)
                injection hgb with hgb1 hgb2 hgb3
                subst hgb1
                clear hgb2 hgb3
                have hly : st.labels[i]? = some (st.labels[i]'(by rw [← HNLb.out]; exact hin)) := List.getElem?_eq_getElem _
                obtain ⟨y, hyy⟩ : ∃ y, y = st.labels[i]'(by rw [← HNLb.out]; exact hin) := ⟨_, rfl⟩
                rw [← hyy] at hly
                have hbb' : wr.ownsRow w.heap.size 33 2 (.slice (some ⟨gb, 0, none⟩) nL cb) nL (flatLab st.labels) := by simpa only [← HNLb.out] using hbb
                have c1 : wr.cell? ⟨gb, i * 2, none⟩ = some (.string y.1) := owns_cell hbb' (flatLab_cells st.labels i y hly).1
                have c2 : wr.cell? ⟨gb, i * 2 + 1, none⟩ = some (.int .i64 y.2) := owns_cell hbb' (flatLab_cells st.labels i y hly).2
                have hgblt : gb < wr.heap.size := (hbb'.lt gb rfl).2
                have hcap : nL ≤ cb := by obtain ⟨_, _, h, _⟩ := owns_block hbb'; exact h
                have hsame : st.lines.length = nL := by rw [HNLb.out]; exact HOK.out.same.symm
                obtain ⟨gn, cn, rfl⟩ := owns_some hnn (by simp only; omega)
                have hn1 : (flatInt st.lines)[i]? = some (.int .i64 (st.lines[i]'(by omega))) := by
                  unfold flatInt; rw [List.getElem?_map, List.getElem?_eq_getElem (by omega)]; rfl
                have c3 : wr.cell? ⟨gn, i, none⟩ = some (.int .i64 (st.lines[i]'(by omega))) := owns_cell hnn hn1
                obtain ⟨ln, hln⟩ : ∃ ln, ln = st.lines[i]'(by omega) := ⟨_, rfl⟩
                rw [← hln] at c3
                have hgnlt : gn < wr.heap.size := (hnn.lt gn rfl).2
                have hplt : p < wr.heap.size := (Array.getElem?_eq_some_iff.1 hp).1
                have q0 : wr.cell? ⟨p, 0, none⟩ = some (.slice al3 nC cl3) := by rw [HNC.out]; exact rowCell hp
                have q2 : wr.cell? ⟨p, 2, none⟩ = some (.slice (some ⟨gn, 0, none⟩) nL cn) := by rw [← hsame]; exact rowCell hp
                have HDR : Hid (st.labels.drop i = y :: st.labels.drop (i + 1)) := by
                  show _ = _
                  rw [List.drop_eq_getElem_cons (by rw [← HNLb.out]; exact hin), hyy]
                have HR3 := Lib.hid hr3
                have HB5 := Lib.hid hb5
                have HQ1 := Lib.hid hq1
                have hB6 := hb5.size
                clear hp hBp hll hne hbb hnn hww hbm hm hly hyy hbb' hn1 hln hsame hr3 hb5 hq1
                by_cases heq : y.2 = (nC : Int)
                · have heb : (y.2 == (nC : Int)) = true := by rw [beq_iff_eq]; exact heq
                  have HFIN : Hid (parseV s = .error (false, 0)) := by
                    show _ = _
                    have h0 : st.labels.any (fun b => b.2 == (code.length : Int)) = true := by
                      rw [HAN.out, HDR.out, List.any_cons]
                      have : (y.2 == (code.length : Int)) = true := by rw [beq_iff_eq, heq, HNC.out]
                      rw [this]; rfl
                    rw [HPE.out, HPE2.out, h0]; rfl
                  clear heq
                  go_wp2_with fail
                  go_quiet (fail)
                  go_wp2_with (go_at_call 19; refine (afail_any _ _ _ _).mono ?_; rintro e w' ⟨rfl, rfl⟩)
                  go_ret3
                  rw [HFIN.out]
                  exact ⟨_, _, rfl, ⟨_, _, rfl, by omega, alloc_at' (by simp), (fun h => by cases h)⟩, (fun h => by cases h), ((below_drewN (HB5.out.alloc (by omega) _) _).alloc (by simp; omega) _)⟩
                · have heb : (y.2 == (nC : Int)) = false := by rw [beq_eq_false_iff_ne]; exact heq
                  have HAN2 : Hid (st.labels.any (fun b => b.2 == (code.length : Int)) = (st.labels.drop (i + 1)).any (fun b => b.2 == (code.length : Int))) := by
                    show _ = _
                    rw [HAN.out, HDR.out, List.any_cons]
                    have : (y.2 == (code.length : Int)) = false := by rw [beq_eq_false_iff_ne, ← HNC.out]; exact heq
                    rw [this]; rfl
                  clear heq
                  have HKR : Hid (∀ nq, RdAt ((wr.alloc (.cells #[.string y.1, .int .i64 y.2] 33)).drewN nq) w.heap.size p p { st with code := code } ∧ ((wr.alloc (.cells #[.string y.1, .int .i64 y.2] 33)).drewN nq).cell? ⟨p, 1, none⟩ = some (.slice (some ⟨gb, 0, none⟩) nL cb) ∧ Below w.heap.size w ((wr.alloc (.cells #[.string y.1, .int .i64 y.2] 33)).drewN nq)) := by
                    intro nq
                    refine ⟨HR3.out.below (below_drewN ((Below.refl _ _).alloc (Nat.le_refl _) _) _), ?_, below_drewN (HB5.out.alloc (by omega) _) _⟩
                    show (wr.alloc _).cell? _ = _
                    rw [World.cell?_alloc_past _ _ _ hplt]; exact HQ1.out
                  go_wp2_with fail
                  go_quiet (fail)
                  go_wp2
                  go_roundw
                  case rel => exact ⟨i + 1, by omega, by go_num, (HKR.out _).1, (HKR.out _).2.1, (HKR.out _).2.2, HAN2.out⟩
                  case measure => simp [intOf]; omega
              · have HFIN : Hid (parseV s = .ok (code, st.labels)) := by
                  show _ = _
                  have h0 : st.labels.any (fun b => b.2 == (code.length : Int)) = false := by
                    rw [HAN.out, List.drop_eq_nil_of_le (by rw [← HNLb.out]; omega)]; rfl
                  rw [HPE.out, HPE2.out, h0]; rfl
                obtain ⟨vl, vb, vn, vw, bm, hp, hBp, hll, hne, hbb, hnn, hww, hbm, hm⟩ := hr3.parts
                have q0 : wr.cell? ⟨p, 0, none⟩ = some vl := rowCell hp
                have evb : vb = .slice ab nL cb := by
                  have := rowCell (i := 1) hp; rw [hq1] at this; exact (Option.some.inj this).symm
                have HLL := Lib.hid hll
                have HBB := Lib.hid hbb
                have HB5 := Lib.hid hb5
                have HEV := Lib.hid evb
                clear hr3 hp hBp hll hne hbb hnn hww hbm hm hb5 evb HAN
                go_wp2_with fail
                go_quiet (fail)
                go_wp2_with fail
                go_ret3
                rw [HFIN.out]
                exact ⟨_, _, rfl, HLL.out, by rw [← HEV.out]; exact HBB.out, below_drewN HB5.out _⟩
end Go.Proofs.YtnoejikcdigceaaDoor
