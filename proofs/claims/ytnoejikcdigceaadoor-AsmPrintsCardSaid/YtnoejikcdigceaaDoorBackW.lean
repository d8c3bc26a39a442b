/- The walk of AsmBack. -/
import Derived.Test.YtnoejikcdigceaaDoorGFind
import Derived.Test.YtnoejikcdigceaaDoorGBack
import Derived.Test.YtnoejikcdigceaaDoorParse
import Derived.Test.YtnoejikcdigceaaDoorAwake
import Derived.Test.YtnoejikcdigceaaDoorNamesW
set_option linter.unusedVariables false
set_option linter.unusedSimpArgs false
namespace Go.Proofs.YtnoejikcdigceaaDoor
open Go.RowKit
theorem printV_ok {l : List Ins} {s : ByteArray} (h : printV l = .ok s) : l.length ≤ 2048 ∧ badV l < 0 ∧ s = ofL (linesTo l l.length) := by
  unfold printV at h
  split at h
  · cases h
  · split at h
    · cases h
    · injection h with h
      exact ⟨by omega, by omega, h.symm⟩
theorem CodeArg.form {w : World} {v : Value} {l : List Ins} (h : CodeArg w v l) : ∃ va vc, v = .slice va l.length vc := by
  rcases h with ⟨rfl, rfl⟩ | ⟨a, c, rfl, _⟩
  · exact ⟨_, _, rfl⟩
  · exact ⟨_, _, rfl⟩
theorem own_rowI {w : World} {B : Nat} {v : Value} {l : List Ins} (h : w.ownsRow B 37 7 v l.length (flatIns l)) : ∃ a c, v = .slice a l.length c ∧ l.length ≤ c ∧ (l ≠ [] → ∃ g, a = some ⟨g, 0, none⟩ ∧ RowI w g l) := by
  cases l with
  | nil =>
    obtain ⟨a, c, rfl⟩ := owns_slice h
    exact ⟨a, c, rfl, Nat.zero_le _, fun h => absurd rfl h⟩
  | cons X l =>
    obtain ⟨g, c, rfl⟩ := owns_some h (by simp)
    obtain ⟨_, _, hc, _⟩ := owns_block h
    exact ⟨_, c, rfl, hc, fun _ => ⟨g, rfl, (h.lt g rfl).2, fun j u hj => owns_cell h hj⟩⟩
set_option maxRecDepth 100000 in
set_option maxHeartbeats 8000000 in
theorem back_any (l : List Ins) (v : Value) (hl : l.length * 56 ≤ 140737488351232) (hlv : ∀ X ∈ l, 0 ≤ X.v ∧ X.v ≤ 18446744073709551615) (m : Int) (w : World) (hv : CodeArg w v l) (hm : w.cell? ⟨1, 0, none⟩ = some (.int .i64 m)) (hg : w.cell? ⟨0, 0, none⟩ = some (.iface 119 (.agg #[.pointer (some ⟨4, 28, none⟩)]))) :
    Calls Tryd.prog 6 #[v] w (RetT w) := by
  have HCP := Lib.hid (copy_any l v hl w hv)
  have HA := Lib.hid hv
  have HM := Lib.hid hm
  have HG := Lib.hid hg
  have HLV := Lib.hid hlv
  have h1w : 1 < w.heap.size := World.block_lt_of_cell? w _ hm
  obtain ⟨va, vc, rfl⟩ := hv.form
  clear hv hm hg hlv
  obtain ⟨N, hN⟩ : ∃ N, N = l.length := ⟨_, rfl⟩
  rw [← hN] at HCP HA hl ⊢
  have HN := Lib.hid hN
  clear hN
  go_enter Tryd.func6, Tryd.ntmps6
  go_wp2_with fail
  refine HCP.out.mono ?_
  rintro e w1 ⟨v1, rfl, hown, hb1⟩
  have HB1 := Lib.hid hb1
  rw [HN.out] at hown
  obtain ⟨a1, c1, rfl, hc1, hr1⟩ := own_rowI hown
  have HP := Lib.hid (print_any l a1 c1 hc1 (by rw [← HN.out]; omega) w1 hr1 ((below_cell hb1 (by omega)).trans HG.out) HLV.out)
  rw [← HN.out] at HP hc1 ⊢
  have hz1 := hb1.size
  clear hown hr1 hb1 HCP
  go_wp2_with fail
  refine HP.out.mono ?_
  intro e w2 hp
  rcases hpv : printV l with ⟨n, k⟩ | s
  · rw [hpv] at hp
    obtain ⟨b, rfl, hbs, hbc, hb2⟩ := hp
    have HB2 := Lib.hid (HB1.out.trans (hb2.mono hz1))
    have HM2 := Lib.hid ((below_cell HB2.out h1w).trans HM.out)
    clear hbc hb2 hpv HP
    go_wp2_with (go_at_call 9; refine (awake_any m _ HM2.out).mono ?_; rintro e w' ⟨rfl, hb⟩; have HB := Lib.hid hb; clear hb)
    go_ret
    exact ⟨rfl, HB2.out.trans (HB.out.mono HB2.out.size)⟩
  · rw [hpv] at hp
    obtain ⟨rfl, hb2⟩ := hp
    have HB2 := Lib.hid (HB1.out.trans (hb2.mono hz1))
    have HM2 := Lib.hid ((below_cell HB2.out h1w).trans HM.out)
    have HPV := Lib.hid (printV_ok hpv)
    have hz2 := HB2.out.size
    clear hb2 hpv HP
    by_cases hsz : (65536 : Int) < (s.size : Int)
    · go_wp2_with (go_at_call 9; refine (awake_any m _ HM2.out).mono ?_; rintro e w' ⟨rfl, hb⟩; have HB := Lib.hid hb; clear hb)
      go_ret
      exact ⟨rfl, HB2.out.trans (HB.out.mono HB2.out.size)⟩
    · obtain ⟨L, hL⟩ : ∃ L, L = labsOf l l.length := ⟨_, rfl⟩
      have HPP : Hid (Calls Tryd.prog 10 #[.string s] w2 (Parsed (.ok (l, L)) w2)) := by
        rw [hL]
        have h := parse_any s (by omega) m w2 HM2.out
        obtain ⟨h1, h2, h3⟩ := HPV.out
        rw [show parseV s = .ok (l, labsOf l l.length) by rw [h3]; exact back_law l h1 h2 HLV.out] at h
        exact h
      have hn2 : N ≤ 2048 := by rw [HN.out]; exact HPV.out.1
      go_wp2_with fail
      refine HPP.out.mono ?_
      rintro e w3 ⟨vl, vb, rfl, hvl, hvb, hb3⟩
      have HB3 := Lib.hid (HB2.out.trans (hb3.mono hz2))
      have HM3 := Lib.hid ((below_cell HB3.out h1w).trans HM.out)
      have HA3 := Lib.hid (HA.out.below HB3.out)
      have HCD := Lib.hid (code_arg l (by have := HN.out; omega) w3 HA3.out hvl)
      have hz3 := HB3.out.size
      have HVB := Lib.hid hvb
      obtain ⟨ab, cb, rfl⟩ := owns_slice hvb
      obtain ⟨al, cl, rfl⟩ := owns_slice hvl
      clear hvl hvb hb3 HPP
      rw [← HN.out] at HCD ⊢
      have HL := Lib.hid hL
      obtain ⟨M, hMl⟩ : ∃ M, M = L.length := ⟨_, rfl⟩
      rw [← hMl] at HVB ⊢
      have HMl := Lib.hid hMl
      have hM2 : M ≤ 2048 := by
        rw [hMl, hL]; unfold labsOf goals
        rw [List.length_map]
        exact Nat.le_trans (List.length_filter_le _ _) (by rw [List.length_range]; exact HPV.out.1)
      clear hL hMl
      go_wp2_with fail
      refine HCD.out.mono ?_
      rintro e w4 ⟨rfl, hb4⟩
      have HB4 := Lib.hid (HB3.out.trans (hb4.mono hz3))
      have HB34 := Lib.hid hb4
      have HM4 := Lib.hid ((below_cell HB4.out h1w).trans HM.out)
      have hz4 := hb4.size
      clear hb4 HCD
      go_wp2_with fail
      go_loopw [7] (fun s wz => ∃ k : Nat, k ≤ M ∧ s = .int .i64 k ∧ Below w3.heap.size w3 wz) (fun s _ => M - (intOf s).toNat)
      case atStart => exact ⟨0, by omega, rfl, HB34.out⟩
      case round =>
        obtain ⟨k, hk, rfl, hbel⟩ := hrel
        have HBK := Lib.hid hbel
        have hbs := hbel.size
        have HBW := Lib.hid (HB3.out.trans (hbel.mono hz3))
        have HMK := Lib.hid ((below_cell HBW.out h1w).trans HM.out)
        by_cases hkn : k < M
        · have hkn3 : (k : Int) < (M : Int) := by omega
          obtain ⟨vn, hvn, hat, j, hj1, hj2⟩ := labs_find l HPV.out.1 k (by rw [← HL.out, ← HMl.out]; exact hkn)
          rw [← HL.out] at hat hj1 hj2
          rw [← HN.out] at hvn
          have hpos : 0 < M := by omega
          obtain ⟨g, c, hsl⟩ := owns_some HVB.out hpos
          injection hsl with hs1 hs2 hs3
          subst hs1
          subst hs3
          obtain ⟨f0, f1⟩ := flatLab_cells L k _ hat
          have HVB2 : Hid (w3.ownsRow w2.heap.size 33 2 (.slice (some ⟨g, 0, none⟩) L.length cb) L.length (flatLab L)) := by rw [← HMl.out]; exact HVB
          have hgl := (HVB2.out.lt g rfl).2
          obtain ⟨_, _, hcb, _⟩ := owns_block HVB2.out
          have e0 : wr.cell? ⟨g, k * 2, none⟩ = some (.string (labOf vn).1) := (below_cell hbel hgl).trans (owns_cell HVB2.out f0)
          have e1 : wr.cell? ⟨g, k * 2 + 1, none⟩ = some (.int .i64 (labOf vn).2) := (below_cell hbel hgl).trans (owns_cell HVB2.out f1)
          have HFD := Lib.hid (find_any L (labOf vn).1 j (labOf vn) hj1 hj2 g cb (by rw [← HMl.out]; omega) hcb wr (by omega) (fun i u hi => (below_cell hbel hgl).trans (owns_cell HVB2.out hi)))
          rw [← HMl.out] at HFD hcb
          obtain ⟨nm, hnm⟩ : ∃ nm, nm = (labOf vn).1 := ⟨_, rfl⟩
          have hvi : (labOf vn).2 = (vn : Int) := rfl
          rw [← hnm] at e0 HFD
          rw [hvi] at e1 HFD
          clear hat hj1 hj2 f0 f1 hbel hnm hvi
          go_wp2_with fail
          refine HFD.out.mono ?_
          rintro e w5 ⟨rfl, hb5⟩
          have HBK5 := Lib.hid (HBK.out.trans (hb5.mono hbs))
          have e15 : w5.cell? ⟨g, k * 2 + 1, none⟩ = some (.int .i64 vn) := (below_cell hb5 (by omega)).trans e1
          clear hb5 HFD e0 e1
          have q1 : ((vn : Int) == (vn : Int)) = true := by simp
          have q2 : ¬ (vn : Int) < 0 := by omega
          have q3 : ¬ (N : Int) ≤ (vn : Int) := by omega
          go_wp2_with fail
          go_roundw
          case rel => exact ⟨k + 1, by omega, by go_num, HBK5.out⟩
          case measure => simp [intOf]; omega
        · have hkn3 : ¬ (k : Int) < (M : Int) := by omega
          clear hbel
          go_wp2_with (go_at_call 9; refine (awake_any m _ HMK.out).mono ?_; rintro e w' ⟨rfl, hb⟩; have HB := Lib.hid hb; clear hb)
          go_ret
          exact ⟨rfl, HBW.out.trans (HB.out.mono HBW.out.size)⟩
end Go.Proofs.YtnoejikcdigceaaDoor
