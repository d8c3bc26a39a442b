/- The walk of AsmJoins. -/
import Derived.Test.YtnoejikcdigceaaDoorGFind
import Derived.Test.YtnoejikcdigceaaDoorGJoin
import Derived.Test.YtnoejikcdigceaaDoorCodeH
import Derived.Test.YtnoejikcdigceaaDoorParse
import Derived.Test.YtnoejikcdigceaaDoorAwake
import Derived.Test.YtnoejikcdigceaaDoorBackW
import Derived.Deep.DeepCutAuto
import Derived.IntWalk
set_option linter.unusedVariables false
set_option linter.unusedSimpArgs false
namespace Go.Proofs.YtnoejikcdigceaaDoor
open Go.RowKit
set_option maxRecDepth 100000 in
set_option maxHeartbeats 8000000 in
theorem joins_out (N M : Nat) (a1 a2 : Option Addr) (c1 c2 : Nat) (h : 40 < N ∨ 40 < M ∨ N = 0 ∨ M = 0) (m : Int) (w : World) (hm : w.cell? ⟨1, 0, none⟩ = some (.int .i64 m)) :
    Calls Tryd.prog 5 #[.slice a1 N c1, .slice a2 M c2] w (RetT w) := by
  have HM := Lib.hid hm
  have hcs : (40 < (N : Int)) ∨ (¬ 40 < (N : Int) ∧ 40 < (M : Int)) ∨ (¬ 40 < (N : Int) ∧ ¬ 40 < (M : Int) ∧ ((N : Int) == 0) = true) ∨ (¬ 40 < (N : Int) ∧ ¬ 40 < (M : Int) ∧ ((N : Int) == 0) = false ∧ ((M : Int) == 0) = true) := by
    simp only [beq_iff_eq, beq_eq_false_iff_ne]; omega
  clear hm h
  rcases hcs with q1 | ⟨q1, q2⟩ | ⟨q1, q2, q3⟩ | ⟨q1, q2, q3, q4⟩
  all_goals
    go_enter Tryd.func5, Tryd.ntmps5
    go_wp2_with (go_at_call 9; refine (awake_any m _ HM.out).mono ?_; rintro e w' ⟨rfl, hb⟩; have HB := Lib.hid hb; clear hb)
    go_ret
    exact ⟨rfl, HB.out⟩
theorem flatIns_app (a b : List Ins) : flatIns (a ++ b) = flatIns a ++ flatIns b := by unfold flatIns; rw [List.flatMap_append]
theorem field_place (a b c d x y z i : Bool) (W : World) : (Instr.field 47 (.agg #[.bool a, .bool b, .bool c, .bool d, .bool x, .bool y, .bool z, .bool i]) 6).run Tryd.prog W = .ok (.bool z) W := by kernel_rfl
theorem uB_t (t : ByteArray) (k : Nat) (h : isP t k = true) : uB t (k + 1) = uB t k ++ ⟨#[113]⟩ := by
  show uB t k ++ (if isP t k then _ else _) = _; rw [h, if_pos rfl]
theorem uB_f (t : ByteArray) (k : Nat) (h : isP t k = false) : uB t (k + 1) = uB t k ++ t.extract k (k + 1) := by
  show uB t k ++ (if isP t k then _ else _) = _; rw [h, if_neg (by simp)]
theorem mayG {l : List Ins} (hbad : badV l < 0) (hv : ∀ X ∈ l, 0 ≤ X.v ∧ X.v ≤ 18446744073709551615) : ∀ X ∈ l, MayF X l.length ∧ Good X l.length :=
  fun X hX => ⟨mayF_of (badV_may hbad hX), may_of (badV_may hbad hX) (hv X hX) _ rfl⟩
set_option maxRecDepth 100000 in
set_option maxHeartbeats 8000000 in
theorem joins_main (a b : List Ins) (va vb : Value) (ha : a.length ≤ 40) (hb : b.length ≤ 40) (ha0 : 1 ≤ a.length) (hb0 : 1 ≤ b.length) (hav : ∀ X ∈ a, 0 ≤ X.v ∧ X.v ≤ 18446744073709551615) (hbv : ∀ X ∈ b, 0 ≤ X.v ∧ X.v ≤ 18446744073709551615) (m : Int) (w : World)
    (hA : CodeArg w va a) (hB : CodeArg w vb b) (hm : w.cell? ⟨1, 0, none⟩ = some (.int .i64 m)) (hg : w.cell? ⟨0, 0, none⟩ = some (.iface 119 (.agg #[.pointer (some ⟨4, 28, none⟩)]))) :
    Calls Tryd.prog 5 #[va, vb] w (RetT w) := by
  have HC1 := Lib.hid (copy_any a va (by omega) w hA)
  have HA := Lib.hid hA
  have HB := Lib.hid hB
  have HM := Lib.hid hm
  have HG := Lib.hid hg
  have HAV := Lib.hid hav
  have HBV := Lib.hid hbv
  have h1w : 1 < w.heap.size := World.block_lt_of_cell? w _ hm
  obtain ⟨va1, vc1, rfl⟩ := hA.form
  obtain ⟨va2, vc2, rfl⟩ := hB.form
  clear hA hB hm hg hav hbv
  obtain ⟨N, hN⟩ : ∃ N, N = a.length := ⟨_, rfl⟩
  obtain ⟨M, hM⟩ : ∃ M, M = b.length := ⟨_, rfl⟩
  rw [← hN] at HC1 ha ha0 HA ⊢
  rw [← hM] at hb hb0 HB ⊢
  have HN := Lib.hid hN
  have HMb := Lib.hid hM
  clear hN hM
  have q1 : ¬ 40 < (N : Int) := by omega
  have q2 : ¬ 40 < (M : Int) := by omega
  have q3 : ((N : Int) == 0) = false := by rw [beq_eq_false_iff_ne]; omega
  have q4 : ((M : Int) == 0) = false := by rw [beq_eq_false_iff_ne]; omega
  go_enter Tryd.func5, Tryd.ntmps5
  go_wp2_with fail
  refine HC1.out.mono ?_
  rintro e w1 ⟨v1, rfl, hown, hb1⟩
  have HB1 := Lib.hid hb1
  rw [HN.out] at hown
  obtain ⟨a1, c1, rfl, hc1, hr1⟩ := own_rowI hown
  have HP := Lib.hid (print_any a a1 c1 hc1 (by rw [← HN.out]; omega) w1 hr1 ((below_cell hb1 (by omega)).trans HG.out) HAV.out)
  rw [← HN.out] at HP hc1 ⊢
  have hz1 := hb1.size
  clear hown hr1 hb1 HC1
  go_wp2_with fail
  refine HP.out.mono ?_
  intro e w2 hp
  have hpb : ∃ s v, e = .returned (.tuple #[.string s, v]) ∧ Below w1.heap.size w1 w2 ∧ ((v ≠ .nilIface ∧ ∃ y, v = .iface 68 (.pointer (some y))) ∨ (v = .nilIface ∧ printV a = .ok s)) := by
    rcases hpv : printV a with ⟨n, k⟩ | s
    · rw [hpv] at hp
      obtain ⟨bk, rfl, _, _, hb2⟩ := hp
      exact ⟨_, _, rfl, hb2, Or.inl ⟨by simp, _, rfl⟩⟩
    · rw [hpv] at hp
      obtain ⟨rfl, hb2⟩ := hp
      exact ⟨_, _, rfl, hb2, Or.inr ⟨rfl, rfl⟩⟩
  clear hp HP
  obtain ⟨s, v, rfl, hb2, hcs⟩ := hpb
  have HB2 := Lib.hid (HB1.out.trans (hb2.mono hz1))
  have hz2 := HB2.out.size
  have HCS := Lib.hid hcs
  have HC2 : Hid _ := Lib.hid (copy_any b (.slice va2 M vc2) (by rw [← HMb.out]; omega) w2 (HB.out.below HB2.out))
  rw [← HMb.out] at HC2
  clear hb2 hcs
  go_wp2_with fail
  refine HC2.out.mono ?_
  rintro e w3 ⟨v2, rfl, hown, hb3⟩
  have HB3 := Lib.hid (HB2.out.trans (hb3.mono hz2))
  rw [HMb.out] at hown
  obtain ⟨a2, c2, rfl, hc2, hr2⟩ := own_rowI hown
  have HP := Lib.hid (print_any b a2 c2 hc2 (by rw [← HMb.out]; omega) w3 hr2 ((below_cell HB3.out (by omega)).trans HG.out) HBV.out)
  rw [← HMb.out] at HP hc2 ⊢
  have hz3 := HB3.out.size
  clear hown hr2 hb3 HC2
  go_wp2_with fail
  refine HP.out.mono ?_
  intro e w4 hp
  have hpb : ∃ t u, e = .returned (.tuple #[.string t, u]) ∧ Below w3.heap.size w3 w4 ∧ ((u ≠ .nilIface ∧ ∃ y, u = .iface 68 (.pointer (some y))) ∨ (u = .nilIface ∧ printV b = .ok t)) := by
    rcases hpv : printV b with ⟨n, k⟩ | s
    · rw [hpv] at hp
      obtain ⟨bk, rfl, _, _, hb2⟩ := hp
      exact ⟨_, _, rfl, hb2, Or.inl ⟨by simp, _, rfl⟩⟩
    · rw [hpv] at hp
      obtain ⟨rfl, hb2⟩ := hp
      exact ⟨_, _, rfl, hb2, Or.inr ⟨rfl, rfl⟩⟩
  clear hp HP
  obtain ⟨t, u, rfl, hb4, hcu⟩ := hpb
  have HB4 := Lib.hid (HB3.out.trans (hb4.mono hz3))
  have HM4 := Lib.hid ((below_cell HB4.out h1w).trans HM.out)
  have hcs := HCS.out
  clear hb4 HCS
  rcases hcs with ⟨_, y, rfl⟩ | ⟨rfl, hsv⟩
  · clear hcu
    go_wp2_with (go_at_call 9; refine (awake_any m _ HM4.out).mono ?_; rintro e w' ⟨rfl, hb⟩; have HB := Lib.hid hb; clear hb)
    go_ret
    exact ⟨rfl, HB4.out.trans (HB.out.mono HB4.out.size)⟩
  · have HSV := Lib.hid (printV_ok hsv)
    clear hsv
    rcases hcu with ⟨_, y, rfl⟩ | ⟨rfl, htv⟩
    · go_wp2_with (go_at_call 9; refine (awake_any m _ HM4.out).mono ?_; rintro e w' ⟨rfl, hb⟩; have HB := Lib.hid hb; clear hb)
      go_ret
      exact ⟨rfl, HB4.out.trans (HB.out.mono HB4.out.size)⟩
    · have HTV := Lib.hid (printV_ok htv)
      clear htv
      have hs9 : s.size ≤ 16520 := by
        rw [HSV.out.2.2, ofL_size]
        have := linesTo_len a a.length
        have := HN.out; omega
      have ht9 : t.size ≤ 16520 := by
        rw [HTV.out.2.2, ofL_size]
        have := linesTo_len b b.length
        have := HMb.out; omega
      go_upto_block 0 with fail
      go_cut [9] (fun s9 wz => s9 = .string (uB t t.size) ∧ w4 = wz)
      case first => as_aux_lemma =>
        go_wp2_with fail
        go_loop [9, 10] (fun u i => ∃ k : Nat, k ≤ t.size ∧ i = .int .i64 k ∧ u = .string (uB t k)) (fun _ i => t.size - (intOf i).toNat)
        case atStart => exact ⟨0, Nat.zero_le _, rfl, rfl⟩
        case round =>
          obtain ⟨k, hk, rfl, rfl⟩ := hrel
          obtain ⟨y, hy⟩ : ∃ y, uB t k = y := ⟨_, rfl⟩
          have HY := Lib.hid hy
          have hyz : y.size ≤ 16520 := by rw [← hy, uB_size t k hk]; omega
          rw [hy]
          clear hy
          by_cases hlt : k < t.size
          · have y0 := byte_lo t[k]
            have y1 := byte_hi t[k]
            have HT1 : Hid (isP t k = true → uB t (k + 1) = y ++ ⟨#[113]⟩) := fun h => by rw [uB_t t k h, HY.out]
            have HF1 : Hid (isP t k = false → uB t (k + 1) = y ++ t.extract k (k + 1)) := fun h => by rw [uB_f t k h, HY.out]
            have e0 := byteAt_of t k hlt
            by_cases a1 : byteAt t k = 112
            · by_cases a2 : k + 1 < t.size
              · have e1 := byteAt_of t (k + 1) a2
                have z0 := byte_lo t[k + 1]
                have z1 := byte_hi t[k + 1]
                by_cases a3 : 48 ≤ byteAt t (k + 1)
                · by_cases a4 : byteAt t (k + 1) ≤ 57
                  · by_cases k0 : k = 0
                    · have HE := Lib.hid (HT1.out (by unfold isP; rw [decide_eq_true a1, decide_eq_true a2, decide_eq_true a3, decide_eq_true a4, decide_eq_true k0]; rfl))
                      have b1 : ((t[k].toNat : Int) == 112) = true := by rw [e0, beq_iff_eq]; exact a1
                      have b2 : (k : Int) + 1 < (t.size : Int) := by omega
                      have b3 : 48 ≤ (t[k + 1].toNat : Int) := by rw [e1]; exact a3
                      have b4 : (t[k + 1].toNat : Int) ≤ 57 := by rw [e1]; exact a4
                      have b5 : ((k : Int) == 0) = true := by rw [beq_iff_eq]; omega
                      clear a1 a3 a4 e0 e1 k0
                      go_wp2
                      go_round
                      case rel => exact ⟨k + 1, by omega, by go_num, by rw [HE.out]⟩
                      case measure => simp [intOf]; omega
                    · have k1 : k - 1 < t.size := by omega
                      have e2 := byteAt_of t (k - 1) k1
                      have k9 : 0 < (k : Int) := by omega
                      have k8 : ((k : Int) == 0) = false := by rw [beq_eq_false_iff_ne]; omega
                      by_cases a5 : byteAt t (k - 1) = 10
                      · have HE := Lib.hid (HT1.out (by unfold isP; rw [decide_eq_true a1, decide_eq_true a2, decide_eq_true a3, decide_eq_true a4, decide_eq_true a5]; simp))
                        have b1 : ((t[k].toNat : Int) == 112) = true := by rw [e0, beq_iff_eq]; exact a1
                        have b2 : (k : Int) + 1 < (t.size : Int) := by omega
                        have b3 : 48 ≤ (t[k + 1].toNat : Int) := by rw [e1]; exact a3
                        have b4 : (t[k + 1].toNat : Int) ≤ 57 := by rw [e1]; exact a4
                        have b5 : ((t[k - 1].toNat : Int) == 10) = true := by rw [e2, beq_iff_eq]; exact a5
                        clear a1 a3 a4 a5 e0 e1 e2 k0
                        go_wp2
                        go_round
                        case rel => exact ⟨k + 1, by omega, by go_num, by rw [HE.out]⟩
                        case measure => simp [intOf]; omega
                      · by_cases a6 : byteAt t (k - 1) = 32
                        · have HE := Lib.hid (HT1.out (by unfold isP; rw [decide_eq_true a1, decide_eq_true a2, decide_eq_true a3, decide_eq_true a4, decide_eq_true a6]; simp))
                          have b1 : ((t[k].toNat : Int) == 112) = true := by rw [e0, beq_iff_eq]; exact a1
                          have b2 : (k : Int) + 1 < (t.size : Int) := by omega
                          have b3 : 48 ≤ (t[k + 1].toNat : Int) := by rw [e1]; exact a3
                          have b4 : (t[k + 1].toNat : Int) ≤ 57 := by rw [e1]; exact a4
                          have b5 : ((t[k - 1].toNat : Int) == 10) = false := by rw [e2, beq_eq_false_iff_ne]; exact a5
                          have b6 : ((t[k - 1].toNat : Int) == 32) = true := by rw [e2, beq_iff_eq]; exact a6
                          clear a1 a3 a4 a5 a6 e0 e1 e2 k0
                          go_wp2
                          go_round
                          case rel => exact ⟨k + 1, by omega, by go_num, by rw [HE.out]⟩
                          case measure => simp [intOf]; omega
                        · have HE := Lib.hid (HF1.out (by unfold isP; rw [decide_eq_false k0, decide_eq_false a5, decide_eq_false a6]; simp))
                          have b1 : ((t[k].toNat : Int) == 112) = true := by rw [e0, beq_iff_eq]; exact a1
                          have b2 : (k : Int) + 1 < (t.size : Int) := by omega
                          have b3 : 48 ≤ (t[k + 1].toNat : Int) := by rw [e1]; exact a3
                          have b4 : (t[k + 1].toNat : Int) ≤ 57 := by rw [e1]; exact a4
                          have b5 : ((t[k - 1].toNat : Int) == 10) = false := by rw [e2, beq_eq_false_iff_ne]; exact a5
                          have b6 : ((t[k - 1].toNat : Int) == 32) = false := by rw [e2, beq_eq_false_iff_ne]; exact a6
                          clear a1 a3 a4 a5 a6 e0 e1 e2 k0
                          go_wp2
                          go_round
                          case rel => exact ⟨k + 1, by omega, by go_num, by rw [HE.out]⟩
                          case measure => simp [intOf]; omega
                  · have HE := Lib.hid (HF1.out (by unfold isP; rw [decide_eq_false a4]; simp))
                    have b1 : ((t[k].toNat : Int) == 112) = true := by rw [e0, beq_iff_eq]; exact a1
                    have b2 : (k : Int) + 1 < (t.size : Int) := by omega
                    have b3 : 48 ≤ (t[k + 1].toNat : Int) := by rw [e1]; exact a3
                    have b4 : ¬ (t[k + 1].toNat : Int) ≤ 57 := by rw [e1]; exact a4
                    clear a1 a3 a4 e0 e1
                    go_wp2
                    go_round
                    case rel => exact ⟨k + 1, by omega, by go_num, by rw [HE.out]⟩
                    case measure => simp [intOf]; omega
                · have HE := Lib.hid (HF1.out (by unfold isP; rw [decide_eq_false a3]; simp))
                  have b1 : ((t[k].toNat : Int) == 112) = true := by rw [e0, beq_iff_eq]; exact a1
                  have b2 : (k : Int) + 1 < (t.size : Int) := by omega
                  have b3 : ¬ 48 ≤ (t[k + 1].toNat : Int) := by rw [e1]; exact a3
                  clear a1 a3 e0 e1
                  go_wp2
                  go_round
                  case rel => exact ⟨k + 1, by omega, by go_num, by rw [HE.out]⟩
                  case measure => simp [intOf]; omega
              · have HE := Lib.hid (HF1.out (by unfold isP; rw [decide_eq_false a2]; simp))
                have b1 : ((t[k].toNat : Int) == 112) = true := by rw [e0, beq_iff_eq]; exact a1
                have b2 : ¬ (k : Int) + 1 < (t.size : Int) := by omega
                clear a1 a2 e0
                go_wp2
                go_round
                case rel => exact ⟨k + 1, by omega, by go_num, by rw [HE.out]⟩
                case measure => simp [intOf]; omega
            · have HE := Lib.hid (HF1.out (by unfold isP; rw [decide_eq_false a1]; simp))
              have b1 : ((t[k].toNat : Int) == 112) = false := by rw [e0, beq_eq_false_iff_ne]; exact a1
              clear a1 e0
              go_wp2
              go_round
              case rel => exact ⟨k + 1, by omega, by go_num, by rw [HE.out]⟩
              case measure => simp [intOf]; omega
          · obtain rfl : k = t.size := by omega
            go_wp2
            go_meet
            exact ⟨by rw [HY.out], rfl⟩
      case rest =>
        obtain ⟨rfl, rfl⟩ := hcut
        obtain ⟨U, hU⟩ : ∃ U, uB t t.size = U := ⟨_, rfl⟩
        have hUs : U.size ≤ 16520 := by rw [← hU, uB_size t _ (Nat.le_refl _)]; exact ht9
        have HGA := Lib.hid (mayG HSV.out.2.1 HAV.out)
        have HGB := Lib.hid (mayG HTV.out.2.1 HBV.out)
        have HU : Hid (U = ofL (linesQ b)) := by
          have h := uB_lines b HTV.out.1 HGB.out
          rw [← HTV.out.2.2, ← ofL_size, ← HTV.out.2.2] at h
          exact hU.symm.trans h
        rw [hU]
        clear hU
        obtain ⟨C, hC⟩ : ∃ C, C = a ++ b.map (shift a.length) := ⟨_, rfl⟩
        obtain ⟨L, hL⟩ : ∃ L, L = labsOf a a.length ++ labsQ a.length b b.length := ⟨_, rfl⟩
        obtain ⟨K, hK⟩ : ∃ K, K = N + M := ⟨_, rfl⟩
        have hCl : C.length = K := by rw [hC, hK, HN.out, HMb.out]; simp
        have hLl : L.length ≤ 80 := by
          rw [hL]
          have h1 : (labsOf a a.length).length ≤ a.length := by
            unfold labsOf goals; rw [List.length_map]
            exact Nat.le_trans (List.length_filter_le _ _) (by rw [List.length_range]; exact Nat.le_refl _)
          have h2 : (labsQ a.length b b.length).length ≤ b.length := by
            unfold labsQ goals; rw [List.length_map]
            exact Nat.le_trans (List.length_filter_le _ _) (by rw [List.length_range]; exact Nat.le_refl _)
          have h3 := HN.out
          have h4 := HMb.out
          rw [List.length_append]; omega
        have HPP : Hid (Calls Tryd.prog 10 #[.string (s ++ U)] w4 (Parsed (.ok (C, L)) w4)) := by
          have h := parse_any (s ++ U) (by rw [ByteArray.size_append]; omega) m w4 HM4.out
          have e : parseV (s ++ U) = .ok (C, L) := by
            rw [hC, hL, HSV.out.2.2, HU.out]
            have e2 : ofL (linesTo a a.length) ++ ofL (linesQ b) = ofL (linesTo a a.length ++ linesQ b) := by
              apply ByteArray.ext; apply Array.ext'; simp [ofL]
            rw [e2]
            have h3 := HN.out
            have h4 := HMb.out
            exact parse_join a b (by omega) (by omega) HGA.out HGB.out (by intro e; rw [e] at h4; simp at h4; omega)
          rw [e] at h
          exact h
        have hNK : N ≤ K := by omega
        have q5 : ((K : Int) != (N : Int) + (M : Int)) = false := by rw [bne_eq_false_iff_eq]; omega
        have hK80 : K ≤ 80 := by omega
        have HC := Lib.hid hC
        have HCl := Lib.hid hCl
        have HKs := Lib.hid hK
        clear hC hL hK hCl HU HSV HTV
        go_wp2_with fail
        refine HPP.out.mono ?_
        rintro e w5 ⟨vl, vb, rfl, hvl, hvb, hb5⟩
        have HB5 := Lib.hid (HB4.out.trans (hb5.mono HB4.out.size))
        have HM5 := Lib.hid ((below_cell HB5.out h1w).trans HM.out)
        have hz5 := HB5.out.size
        rw [HCl.out] at hvl
        obtain ⟨g, c, rfl⟩ := owns_some hvl (by omega)
        obtain ⟨ab, cb, rfl⟩ := owns_slice hvb
        obtain ⟨_, _, hcb, _⟩ := owns_block hvl
        have hNc : N ≤ c := by omega
        have hgl := (hvl.lt g rfl).2
        have HVL := Lib.hid (fun j u (h : (flatIns C)[j]? = some u) => owns_cell hvl h)
        obtain ⟨ab1, ao1, hva1, hca1, hal1, hac1⟩ : ∃ x y, va1 = some ⟨x, y, none⟩ ∧ N ≤ vc1 ∧ x < w.heap.size ∧ ∀ j u, (flatIns a)[j]? = some u → w.cell? ⟨x, y + j, none⟩ = some u := by
          rcases HA.out with ⟨_, h⟩ | ⟨⟨x, y, sp⟩, c', h1, h2, h3, h4⟩
          · exfalso; have := HN.out; rw [h] at this; simp at this; omega
          · injection h1 with h1 h5 h6
            have hne : a ≠ [] := by intro e; have := HN.out; rw [e] at this; simp at this; omega
            obtain ⟨X, l', hXl⟩ : ∃ X l', a = X :: l' := by
              cases a with
              | nil => exact absurd rfl hne
              | cons X l' => exact ⟨X, l', rfl⟩
            have h0 := h4 0 (.int .i64 X.op) (by rw [hXl]; rfl)
            have hspot : sp = none := by simpa [Addr.add] using World.cell?_spot h0
            subst hspot
            exact ⟨x, y, h1, by have := HN.out; omega, h3 hne, fun j u hj => by have := h4 j u hj; rwa [Addr.add_lit] at this⟩
        obtain ⟨ab2, ao2, hva2, hca2, hal2, hac2⟩ : ∃ x y, va2 = some ⟨x, y, none⟩ ∧ M ≤ vc2 ∧ x < w.heap.size ∧ ∀ j u, (flatIns b)[j]? = some u → w.cell? ⟨x, y + j, none⟩ = some u := by
          rcases HB.out with ⟨_, h⟩ | ⟨⟨x, y, sp⟩, c', h1, h2, h3, h4⟩
          · exfalso; have := HMb.out; rw [h] at this; simp at this; omega
          · injection h1 with h1 h5 h6
            have hne : b ≠ [] := by intro e; have := HMb.out; rw [e] at this; simp at this; omega
            obtain ⟨X, l', hXl⟩ : ∃ X l', b = X :: l' := by
              cases b with
              | nil => exact absurd rfl hne
              | cons X l' => exact ⟨X, l', rfl⟩
            have h0 := h4 0 (.int .i64 X.op) (by rw [hXl]; rfl)
            have hspot : sp = none := by simpa [Addr.add] using World.cell?_spot h0
            subst hspot
            exact ⟨x, y, h1, by have := HMb.out; omega, h3 hne, fun j u hj => by have := h4 j u hj; rwa [Addr.add_lit] at this⟩
        have HCD : Hid (Calls Tryd.prog 11 #[.slice (some ⟨g, 0, none⟩) N c, .slice va1 N vc1] w5 (fun e w' => e = .returned (.bool true) ∧ Below w5.heap.size w5 w')) := by
          have := code_gen2 g 0 ab1 ao1 c vc1 a (by have := HN.out; omega) w5 (by rw [← HN.out]; exact hNc) (by rw [← HN.out]; exact hca1) hgl (by omega)
            (fun j u hj => by
              rw [Nat.zero_add]
              refine HVL.out j u ?_
              rw [HC.out, flatIns_app, List.getElem?_append_left (List.getElem?_eq_some_iff.1 hj).1]; exact hj)
            (fun j u hj => (below_cell HB5.out hal1).trans (hac1 j u hj))
          rw [← HN.out] at this
          rw [hva1]; exact this
        have HAC2 := Lib.hid hac2
        have HVA2 := Lib.hid hva2
        clear hvl hvb hb5 HPP hva1 hac1 hac2 hva2
        obtain ⟨Q, hQ⟩ : ∃ Q, L.length = Q := ⟨_, rfl⟩
        rw [hQ] at hLl ⊢
        clear hQ
        go_wp2_with fail
        refine HCD.out.mono ?_
        rintro e w6 ⟨rfl, hb6⟩
        have HB6 := Lib.hid hb6
        clear hb6 HCD
        go_wp2_with fail
        rw [HVA2.out]
        have hz56 := HB6.out.size
        go_loopw [14] (fun s wz => ∃ k : Nat, k ≤ M ∧ s = .int .i64 k ∧ Below w5.heap.size w5 wz) (fun s _ => M - (intOf s).toNat)
        case atStart => exact ⟨0, by omega, rfl, HB6.out⟩
        case round =>
          obtain ⟨k, hk, rfl, hbel⟩ := hrel
          have HBK := Lib.hid hbel
          have hbs := hbel.size
          have HBW := Lib.hid (HB5.out.trans (hbel.mono hz5))
          by_cases hkn : k < M
          · have hkl : k < b.length := by rw [← HMb.out]; exact hkn
            have hX : b[k]? = some b[k] := List.getElem?_eq_getElem hkl
            obtain ⟨hmf, hgd⟩ := HGB.out b[k] (List.getElem_mem hkl)
            obtain ⟨X, hXX⟩ : ∃ X, X = b[k] := ⟨_, rfl⟩
            rw [← hXX] at hX hmf hgd
            have hY : C[N + k]? = some (shift N X) := by
              rw [HC.out, List.getElem?_append_right (by rw [HN.out]; omega), show N + k - a.length = k from by rw [HN.out]; omega, List.getElem?_map, hX, HN.out]; rfl
            obtain ⟨f0, f1, f2, f3, f4, f5, f6⟩ := flatIns_cells b k X hX
            obtain ⟨g0, g1, g2, g3, g4, g5, g6⟩ := flatIns_cells C (N + k) (shift N X) hY
            have CL : ∀ i, wr.cell? ⟨ab2, i, none⟩ = w.cell? ⟨ab2, i, none⟩ := fun i => below_cell HBW.out hal2
            have a0 := (CL _).trans (HAC2.out _ _ f0)
            have a1 : wr.cell? ⟨ab2, ao2 + k * 7 + 1, none⟩ = some (.int .i64 X.a) := by rw [Nat.add_assoc]; exact (CL _).trans (HAC2.out _ _ f1)
            have a2 : wr.cell? ⟨ab2, ao2 + k * 7 + 2, none⟩ = some (.int .i64 X.b) := by rw [Nat.add_assoc]; exact (CL _).trans (HAC2.out _ _ f2)
            have a3 : wr.cell? ⟨ab2, ao2 + k * 7 + 3, none⟩ = some (.int .i64 X.c) := by rw [Nat.add_assoc]; exact (CL _).trans (HAC2.out _ _ f3)
            have a4 : wr.cell? ⟨ab2, ao2 + k * 7 + 4, none⟩ = some (.int .u64 X.v) := by rw [Nat.add_assoc]; exact (CL _).trans (HAC2.out _ _ f4)
            have a5 : wr.cell? ⟨ab2, ao2 + k * 7 + 5, none⟩ = some (.int .i64 X.m) := by rw [Nat.add_assoc]; exact (CL _).trans (HAC2.out _ _ f5)
            have a6 : wr.cell? ⟨ab2, ao2 + k * 7 + 6, none⟩ = some (.int .i64 X.wh) := by rw [Nat.add_assoc]; exact (CL _).trans (HAC2.out _ _ f6)
            have HRow : Hid (∀ (w' : World) (i : Nat), Below wr.heap.size wr w' → w'.cell? ⟨g, i, none⟩ = w5.cell? ⟨g, i, none⟩) :=
              fun w' i h => (below_cell h (by omega)).trans (below_cell HBK.out hgl)
            have R0 := Lib.hid (HVL.out _ _ g0)
            have R1 := Lib.hid (HVL.out _ _ g1)
            have R2 := Lib.hid (HVL.out _ _ g2)
            have R3 := Lib.hid (HVL.out _ _ g3)
            have R4 := Lib.hid (HVL.out _ _ g4)
            have R5 := Lib.hid (HVL.out _ _ g5)
            have R6 := Lib.hid (HVL.out _ _ g6)
            have HP := Lib.hid (ofV_place X.op hmf.op)
            have hgb : g < wr.heap.size := by omega
            have HMF := Lib.hid hmf
            have HGD := Lib.hid hgd
            have hk3 : (k : Int) < (M : Int) := by omega
            clear hXX hX hY f0 f1 f2 f3 f4 f5 f6 g0 g1 g2 g3 g4 g5 g6 hbel CL hmf hgd
            go_wp2_with fail
            refine (of_any X.op _).mono ?_
            rintro e w7 ⟨rfl, hb7⟩
            have hz7 : wr.heap.size < w7.heap.size := by have := hb7.size; simp at this; omega
            obtain ⟨B, hB⟩ : ∃ B, B = wr.heap.size := ⟨_, rfl⟩
            have HB7 := Lib.hid (((Below.refl wr.heap.size wr).alloc (Nat.le_refl _) (.cells (insCells X) 37)).trans (hb7.mono (by simp)))
            have x0 : w7.cell? ⟨B, 0, none⟩ = some (.int .i64 X.op) := by rw [hB]; exact (below_cellP hb7 (by simp)).trans (rowCell (heap_alloc_at (w := wr)))
            have x1 : w7.cell? ⟨B, 1, none⟩ = some (.int .i64 X.a) := by rw [hB]; exact (below_cellP hb7 (by simp)).trans (rowCell (heap_alloc_at (w := wr)))
            have x2 : w7.cell? ⟨B, 2, none⟩ = some (.int .i64 X.b) := by rw [hB]; exact (below_cellP hb7 (by simp)).trans (rowCell (heap_alloc_at (w := wr)))
            have x3 : w7.cell? ⟨B, 3, none⟩ = some (.int .i64 X.c) := by rw [hB]; exact (below_cellP hb7 (by simp)).trans (rowCell (heap_alloc_at (w := wr)))
            have x4 : w7.cell? ⟨B, 4, none⟩ = some (.int .u64 X.v) := by rw [hB]; exact (below_cellP hb7 (by simp)).trans (rowCell (heap_alloc_at (w := wr)))
            have x5 : w7.cell? ⟨B, 5, none⟩ = some (.int .i64 X.m) := by rw [hB]; exact (below_cellP hb7 (by simp)).trans (rowCell (heap_alloc_at (w := wr)))
            have x6 : w7.cell? ⟨B, 6, none⟩ = some (.int .i64 X.wh) := by rw [hB]; exact (below_cellP hb7 (by simp)).trans (rowCell (heap_alloc_at (w := wr)))
            have xf : w7.frozen? ⟨B, 4, none⟩ = false := by rw [hB, hb7.frozen (p := ⟨wr.heap.size, 4, none⟩) (by simp)]; exact rowFree (heap_alloc_at (w := wr))
            have y0 := (HRow.out w7 _ HB7.out).trans R0.out
            have y1 := (HRow.out w7 _ HB7.out).trans R1.out
            have y2 := (HRow.out w7 _ HB7.out).trans R2.out
            have y3 := (HRow.out w7 _ HB7.out).trans R3.out
            have y4 := (HRow.out w7 _ HB7.out).trans R4.out
            have y5 := (HRow.out w7 _ HB7.out).trans R5.out
            have y6 := (HRow.out w7 _ HB7.out).trans R6.out
            have hBl : B < w7.heap.size := by omega
            have hB5 : w5.heap.size ≤ B := by omega
            have hgB : g < B := by omega
            have HBN : Hid (Below w5.heap.size w5 w7) := HBK.out.trans (HB7.out.mono hbs)
            rw [← hB]
            clear hB hb7 HB7 HRow R0 R1 R2 R3 R4 R5 R6 a0 a1 a2 a3 a4 a5 a6
            obtain ⟨O, hO⟩ : ∃ O, ofV X.op = O := ⟨_, rfl⟩
            rw [hO] at HP ⊢
            clear hO
            obtain ⟨oA, oB, oC, oV, nB, nC, oP, oI⟩ := O
            have hfd := field_place oA oB oC oV nB nC oP oI
            unfold of8
            cases hJ : isJ X.op
            · have hP : oP = false := HP.out.trans hJ
              subst hP
              have hs : shift N X = X := shift_no N hJ
              rw [hs] at y0 y1 y2 y3 y4 y5 y6
              clear hJ hs HP
              go_wp2_with fail
              have s4 : (N : Int) + (k : Int) < (K : Int) := by have := HKs.out; omega
              have s1 : IntKind.i64.wrap ((N : Int) + (k : Int)) = (N : Int) + (k : Int) := IntWalk.i64_in _ (by omega)
              have s2 : 0 ≤ (N : Int) + (k : Int) := by omega
              have s3 : ((N : Int) + (k : Int)).toNat = N + k := by omega
              go_quiet (fail)
              clear s1 s2 s3 s4
              go_wp2
              go_roundw
              case rel => exact ⟨k + 1, by omega, by go_num, below_drewN HBN.out _⟩
              case measure => simp [intOf]; omega
            · have hP : oP = true := HP.out.trans hJ
              subst hP
              have hv := HGD.out.jump hJ
              have hv1 := hv.1
              have hv2 : X.v < 40 := by have := hv.2; have := HMb.out; omega
              have hs : shift N X = { X with v := X.v + N } := by unfold shift; rw [hJ]; rfl
              rw [hs] at y0 y1 y2 y3 y4 y5 y6
              dsimp only at y0 y1 y2 y3 y4 y5 y6
              clear hJ hs HP hv
              go_wp2_with fail
              have s4 : (N : Int) + (k : Int) < (K : Int) := by have := HKs.out; omega
              have s1 : IntKind.i64.wrap ((N : Int) + (k : Int)) = (N : Int) + (k : Int) := IntWalk.i64_in _ (by omega)
              have s2 : 0 ≤ (N : Int) + (k : Int) := by omega
              have s3 : ((N : Int) + (k : Int)).toNat = N + k := by omega
              go_quiet (fail)
              clear s1 s2 s3 s4
              go_wp2
              go_roundw
              case rel => exact ⟨k + 1, by omega, by go_num, below_drewN (HBN.out.setCell hB5 _) _⟩
              case measure => simp [intOf]; omega
          · have hk3 : ¬ (k : Int) < (M : Int) := by omega
            have HMK := Lib.hid ((below_cell HBW.out h1w).trans HM.out)
            clear hbel
            go_wp2_with (go_at_call 9; refine (awake_any m _ HMK.out).mono ?_; rintro e w' ⟨rfl, hb⟩; have HB := Lib.hid hb; clear hb)
            go_ret
            exact ⟨rfl, HBW.out.trans (HB.out.mono HBW.out.size)⟩
end Go.Proofs.YtnoejikcdigceaaDoor
