/- The walk of AsmPrints. -/
import Derived.Test.YtnoejikcdigceaaDoorRefPr
import Derived.Test.YtnoejikcdigceaaDoorBackW
set_option linter.unusedVariables false
set_option linter.unusedSimpArgs false
namespace Go.Proofs.YtnoejikcdigceaaDoor
open Go.RowKit
set_option maxRecDepth 100000 in
set_option maxHeartbeats 4000000 in
theorem code_gen3 (b o g2 o2 : Nat) (c1 c2 : Nat) (code : List Ins) (hlen : code.length ≤ 1000000000000000) (w : World) (hc1 : code.length ≤ c1) (hc2 : code.length ≤ c2) (hg1 : b < w.heap.size) (hg2 : g2 < w.heap.size)
    (h1 : ∀ j u, (flatIns code)[j]? = some u → w.cell? ⟨b, o + j, none⟩ = some u) (h2 : ∀ j u, (flatIns code)[j]? = some u → w.cell? ⟨g2, o2 + j, none⟩ = some u) :
    Calls Tryd.prog 11 #[.slice (some ⟨b, o, none⟩) code.length c1, .slice (some ⟨g2, o2, none⟩) code.length c2] w (fun e w' => e = .returned (.bool true) ∧ Below w.heap.size w w') := by
  have H1 := Lib.hid h1
  have H2 := Lib.hid h2
  clear h1 h2
  obtain ⟨N, hN⟩ : ∃ N, code.length = N := ⟨_, rfl⟩
  rw [hN]
  have HN := Lib.hid hN
  rw [hN] at hlen hc1 hc2
  clear hN
  go_enter Tryd.func11, Tryd.ntmps11
  go_wp2
  go_loopw [5] (fun s wz => ∃ (k : Nat), k ≤ N ∧ s = .int .i64 k ∧ Below w.heap.size w wz) (fun s _ => N - (intOf s).toNat)
  case atStart => exact ⟨0, by omega, rfl, Below.refl _ _⟩
  case round =>
    obtain ⟨k, hk, rfl, hbel⟩ := hrel
    by_cases hkn : k < N
    · have hX : code[k]? = some (code[k]'(by rw [HN.out]; exact hkn)) := List.getElem?_eq_getElem _
      obtain ⟨X, hXX⟩ : ∃ X, X = code[k]'(by rw [HN.out]; exact hkn) := ⟨_, rfl⟩
      rw [← hXX] at hX
      obtain ⟨f0, f1, f2, f3, f4, f5, f6⟩ := flatIns_cells code k X hX
      have a0 := (below_cell hbel hg1).trans (H1.out _ _ f0)
      have a1 : wr.cell? ⟨b, o + k * 7 + 1, none⟩ = some (.int .i64 X.a) := by rw [Nat.add_assoc]; exact (below_cell hbel hg1).trans (H1.out _ _ f1)
      have a2 : wr.cell? ⟨b, o + k * 7 + 2, none⟩ = some (.int .i64 X.b) := by rw [Nat.add_assoc]; exact (below_cell hbel hg1).trans (H1.out _ _ f2)
      have a3 : wr.cell? ⟨b, o + k * 7 + 3, none⟩ = some (.int .i64 X.c) := by rw [Nat.add_assoc]; exact (below_cell hbel hg1).trans (H1.out _ _ f3)
      have a4 : wr.cell? ⟨b, o + k * 7 + 4, none⟩ = some (.int .u64 X.v) := by rw [Nat.add_assoc]; exact (below_cell hbel hg1).trans (H1.out _ _ f4)
      have a5 : wr.cell? ⟨b, o + k * 7 + 5, none⟩ = some (.int .i64 X.m) := by rw [Nat.add_assoc]; exact (below_cell hbel hg1).trans (H1.out _ _ f5)
      have a6 : wr.cell? ⟨b, o + k * 7 + 6, none⟩ = some (.int .i64 X.wh) := by rw [Nat.add_assoc]; exact (below_cell hbel hg1).trans (H1.out _ _ f6)
      have b0 := (below_cell hbel hg2).trans (H2.out _ _ f0)
      have b1 : wr.cell? ⟨g2, o2 + k * 7 + 1, none⟩ = some (.int .i64 X.a) := by rw [Nat.add_assoc]; exact (below_cell hbel hg2).trans (H2.out _ _ f1)
      have b2 : wr.cell? ⟨g2, o2 + k * 7 + 2, none⟩ = some (.int .i64 X.b) := by rw [Nat.add_assoc]; exact (below_cell hbel hg2).trans (H2.out _ _ f2)
      have b3 : wr.cell? ⟨g2, o2 + k * 7 + 3, none⟩ = some (.int .i64 X.c) := by rw [Nat.add_assoc]; exact (below_cell hbel hg2).trans (H2.out _ _ f3)
      have b4 : wr.cell? ⟨g2, o2 + k * 7 + 4, none⟩ = some (.int .u64 X.v) := by rw [Nat.add_assoc]; exact (below_cell hbel hg2).trans (H2.out _ _ f4)
      have b5 : wr.cell? ⟨g2, o2 + k * 7 + 5, none⟩ = some (.int .i64 X.m) := by rw [Nat.add_assoc]; exact (below_cell hbel hg2).trans (H2.out _ _ f5)
      have b6 : wr.cell? ⟨g2, o2 + k * 7 + 6, none⟩ = some (.int .i64 X.wh) := by rw [Nat.add_assoc]; exact (below_cell hbel hg2).trans (H2.out _ _ f6)
      have HB := Lib.hid hbel
      have hk3 : (k : Int) < (N : Int) := by omega
      clear hXX hX f0 f1 f2 f3 f4 f5 f6 hbel
      go_wp2_with fail
      go_quiet (fail)
      go_wp2
      go_roundw
      case rel => exact ⟨k + 1, by omega, by go_num, below_drewN HB.out _⟩
      case measure => simp [intOf]; omega
    · have hk3 : ¬ (k : Int) < (N : Int) := by omega
      have HB := Lib.hid hbel
      clear hbel
      go_wp2
      go_ret
      exact ⟨rfl, HB.out⟩
theorem code_argL (l : List Ins) (hlen : l.length ≤ 1000000000000000) {B : Nat} {v1 v2 : Value} (w : World) (h1 : CodeArg w v1 l) (h2 : w.ownsRow B 37 7 v2 l.length (flatIns l)) :
    Calls Tryd.prog 11 #[v1, v2] w (fun e w' => e = .returned (.bool true) ∧ Below w.heap.size w w') := by
  cases l with
  | nil =>
    obtain ⟨a2, c2, rfl⟩ := owns_slice h2
    rcases h1 with ⟨rfl, _⟩ | ⟨a, c, rfl, _⟩
    · exact code_none none a2 0 c2 w
    · exact code_none (some a) a2 c c2 w
  | cons X l =>
    obtain ⟨g2, c2, rfl⟩ := owns_some h2 (by simp)
    obtain ⟨_, _, hc2, _⟩ := owns_block h2
    rcases h1 with ⟨_, h⟩ | ⟨⟨b, o, sp⟩, c, rfl, hc, hlt, hcell⟩
    · cases h
    · have h0 := hcell 0 (.int .i64 X.op) rfl
      have hspot : sp = none := by simpa [Addr.add] using World.cell?_spot h0
      subst hspot
      exact code_gen3 b o g2 0 c c2 (X :: l) hlen w hc hc2 (hlt (by simp)) (h2.lt g2 rfl).2 (fun j u hj => by have := hcell j u hj; rwa [Addr.add_lit] at this) (fun j u hj => by rw [Nat.zero_add]; exact owns_cell h2 hj)
set_option maxRecDepth 100000 in
set_option maxHeartbeats 4000000 in
theorem same_nil (w : World) : Calls Tryd.prog 12 #[.nilIface, .pointer none] w (RetT w) := by
  go_enter Tryd.func12, Tryd.ntmps12
  go_wp2
  go_ret
  exact ⟨rfl, Below.refl _ _⟩
set_option maxRecDepth 100000 in
set_option maxHeartbeats 4000000 in
theorem rprintc_none (a : Option Addr) (c : Nat) (w : World) : Calls Tryd.prog 18 #[.slice a 0 c] w (RPrinted (printV []) w) := by
  have hmk := make74 0 (by omega)
  rw [show ((0 : Nat) : Int) = 0 from rfl] at hmk
  have HE : Hid (printV [] = .ok ⟨#[]⟩) := by show _ = _; kernel_rfl
  obtain ⟨r, hr⟩ : ∃ r, printV [] = r := ⟨_, rfl⟩
  rw [hr] at HE ⊢
  clear hr
  go_enter Tryd.func18, Tryd.ntmps18
  go_wp2_with fail
  refine wp_loop_rounds 1 ?_
  rw [rounds_succ]
  go_wp2_with fail
  refine wp_loop_rounds 1 ?_
  rw [rounds_succ]
  go_wp2_with fail
  go_ret2
  exact RPrinted.good HE.out rfl ((Below.refl _ _).alloc (Nat.le_refl _) _)
theorem rprintc_any (l : List Ins) (v : Value) (hv : ∀ X ∈ l, 0 ≤ X.v ∧ X.v ≤ 18446744073709551615) (w : World) (h : CodeArg w v l) : Calls Tryd.prog 18 #[v] w (RPrinted (printV l) w) := by
  by_cases hbig : 2048 < l.length
  · obtain ⟨va, vc, rfl⟩ := h.form
    exact rprintc_big l va vc hbig w
  · cases l with
    | nil =>
      obtain ⟨va, vc, rfl⟩ := h.form
      exact rprintc_none va vc w
    | cons X l =>
      rcases h with ⟨_, h⟩ | ⟨⟨b, o, sp⟩, c, rfl, hc, hlt, hcell⟩
      · cases h
      · have h0 := hcell 0 (.int .i64 X.op) rfl
        have hspot : sp = none := by simpa [Addr.add] using World.cell?_spot h0
        subst hspot
        exact rprintc_some (X :: l) b o c (by omega) (by simp) hc hv w (hlt (by simp)) (fun j u hj => by have := hcell j u hj; rwa [Addr.add_lit] at this)
theorem printV_kind {l : List Ins} {n k : Int} (h : printV l = .error (n, k)) : ∃ x : Nat, k = (x : Int) ∧ 1 ≤ x ∧ x ≤ 10 := by
  unfold printV at h
  split at h
  · injection h with h; injection h with h1 h2; exact ⟨3, h2.symm, by omega, by omega⟩
  · split at h
    · injection h with h; injection h with h1 h2; exact ⟨5, h2.symm, by omega, by omega⟩
    · cases h
set_option maxRecDepth 100000 in
set_option maxHeartbeats 8000000 in
theorem prints_any (l : List Ins) (v : Value) (hl : l.length * 56 ≤ 140737488351232) (hlv : ∀ X ∈ l, 0 ≤ X.v ∧ X.v ≤ 18446744073709551615) (m : Int) (w : World) (hv : CodeArg w v l) (hm : w.cell? ⟨1, 0, none⟩ = some (.int .i64 m)) (hg : w.cell? ⟨0, 0, none⟩ = some (.iface 119 (.agg #[.pointer (some ⟨4, 28, none⟩)]))) :
    Calls Tryd.prog 7 #[v] w (RetT w) := by
  have HCP := Lib.hid (copy_any l v hl w hv)
  have HA := Lib.hid hv
  have HM := Lib.hid hm
  have HG := Lib.hid hg
  have HLV := Lib.hid hlv
  have h1w : 1 < w.heap.size := World.block_lt_of_cell? w _ hm
  obtain ⟨va, vc, rfl⟩ := hv.form
  clear hv hm hg hlv
  obtain ⟨N, hN⟩ : ∃ N, N = l.length := ⟨_, rfl⟩
  rw [← hN] at HCP HA hl ⊢
  have HN := Lib.hid hN
  clear hN
  go_enter Tryd.func7, Tryd.ntmps7
  go_wp2_with fail
  refine HCP.out.mono ?_
  rintro e w1 ⟨v1, rfl, hown, hb1⟩
  have HB1 := Lib.hid hb1
  rw [HN.out] at hown
  have HOWN := Lib.hid hown
  obtain ⟨a1, c1, rfl, hc1, hr1⟩ := own_rowI hown
  have HP := Lib.hid (print_any l a1 c1 hc1 (by rw [← HN.out]; omega) w1 hr1 ((below_cell hb1 (by omega)).trans HG.out) HLV.out)
  rw [← HN.out] at HP hc1 ⊢
  have hz1 := hb1.size
  clear hown hr1 hb1 HCP
  go_wp2_with fail
  refine HP.out.mono ?_
  intro e w2 hp
  have hpe : ∃ s u, e = .returned (.tuple #[.string s, u]) ∧ Below w1.heap.size w1 w2 := by
    rcases hpv : printV l with ⟨n, k⟩ | s
    · rw [hpv] at hp
      obtain ⟨bk, rfl, _, _, hb2⟩ := hp
      exact ⟨_, _, rfl, hb2⟩
    · rw [hpv] at hp
      obtain ⟨rfl, hb2⟩ := hp
      exact ⟨_, _, rfl, hb2⟩
  obtain ⟨s, u, rfl, hb2⟩ := hpe
  have HPP := Lib.hid hp
  have HB2 := Lib.hid (HB1.out.trans (hb2.mono hz1))
  have HB12 := Lib.hid hb2
  have hz2 := HB2.out.size
  have HRP : Hid (Calls Tryd.prog 18 #[.slice va N vc] w2 (RPrinted (printV l) w2)) := by
    have := rprintc_any l (.slice va N vc) HLV.out w2 (by have h := HA.out.below HB2.out; exact h)
    exact this
  clear hp hb2 HP
  go_wp2_with fail
  refine HRP.out.mono ?_
  intro e w3 hq
  have HPP2 := HPP.out
  have hfin : ∃ t f, e = .returned (.tuple #[.string t, .pointer f]) ∧ t = s ∧ Below w2.heap.size w2 w3 ∧ (∀ w4, w4 = w3 → Calls Tryd.prog 12 #[u, .pointer f] w4 (RetT w4)) := by
    rcases hpv : printV l with ⟨n, k⟩ | s'
    · rw [hpv] at HPP2 hq
      obtain ⟨bk, he, hbs, hbc, hb2⟩ := HPP2
      obtain ⟨p, rfl, hp1, hf, hb3⟩ := hq
      injection he with he
      injection he with he
      obtain ⟨x, rfl, hx1, hx2⟩ := printV_kind hpv
      have e1 : s = ⟨#[]⟩ ∧ u = .iface 68 (.pointer (some ⟨bk, 0, none⟩)) := by
        have := congrArg Array.toList he
        simp at this
        exact this
      obtain ⟨rfl, rfl⟩ := e1
      refine ⟨_, _, rfl, rfl, hb3, fun w4 hw4 => ?_⟩
      subst hw4
      have hbl : bk < w2.heap.size := (Array.getElem?_eq_some_iff.1 hbc).1
      refine same_one bk p asmB n x hx1 hx2 w4 (by rw [hb3.block bk hbl]; exact hbc) hf ?_
      exact (below_cell (HB2.out.trans (hb3.mono hz2)) (by omega)).trans HG.out
    · rw [hpv] at HPP2 hq
      obtain ⟨he, hb2⟩ := HPP2
      obtain ⟨rfl, hb3⟩ := hq
      injection he with he
      injection he with he
      have e1 : s = s' ∧ u = .nilIface := by
        have := congrArg Array.toList he
        simp at this
        exact this
      obtain ⟨rfl, rfl⟩ := e1
      exact ⟨_, _, rfl, rfl, hb3, fun w4 _ => same_nil w4⟩
  obtain ⟨t, f, rfl, rfl, hb3, hsame⟩ := hfin
  have HB3 := Lib.hid (HB2.out.trans (hb3.mono hz2))
  have HB23 := Lib.hid hb3
  have hz3 := HB3.out.size
  have HSM := Lib.hid (hsame w3 rfl)
  clear hq hb3 hsame HRP HPP HPP2
  have hst : (t.toList == t.toList) = true := by simp
  go_wp2_with fail
  refine HSM.out.mono ?_
  rintro e w4 ⟨rfl, hb4⟩
  have HB4 := Lib.hid (HB3.out.trans (hb4.mono hz3))
  have HM4 := Lib.hid ((below_cell HB4.out h1w).trans HM.out)
  have HCD : Hid (Calls Tryd.prog 11 #[.slice va N vc, .slice a1 N c1] w4 (fun e w' => e = .returned (.bool true) ∧ Below w4.heap.size w4 w')) := by
    have hw : Below w1.heap.size w1 w4 := (HB12.out.trans (HB23.out.mono HB12.out.size)).trans (hb4.mono (Nat.le_trans HB12.out.size HB23.out.size))
    have hown : w4.ownsRow w.heap.size 37 7 (.slice a1 N c1) l.length (flatIns l) := by have h := HOWN.out; rw [← HN.out] at h ⊢; exact owns_below h hw
    have := code_argL l (by have := HN.out; omega) w4 (by have h := HA.out.below HB4.out; exact h) hown
    exact this
  have hz4 := HB4.out.size
  clear hb4 HSM
  go_wp2_with fail
  refine HCD.out.mono ?_
  rintro e w5 ⟨rfl, hb5⟩
  have HB5 := Lib.hid (HB4.out.trans (hb5.mono hz4))
  have HM5 := Lib.hid ((below_cell HB5.out h1w).trans HM.out)
  clear hb5 HCD
  go_wp2_with (go_at_call 9; refine (awake_any m _ HM5.out).mono ?_; rintro e w' ⟨rfl, hb⟩; have HB := Lib.hid hb; clear hb)
  go_ret
  exact ⟨rfl, HB5.out.trans (HB.out.mono HB5.out.size)⟩
end Go.Proofs.YtnoejikcdigceaaDoor
