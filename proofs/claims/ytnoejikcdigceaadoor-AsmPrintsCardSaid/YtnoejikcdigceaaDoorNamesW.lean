/- The walk of AsmNames. -/
import Derived.Test.YtnoejikcdigceaaDoorNamesP
import Derived.Test.YtnoejikcdigceaaDoorSame
import Derived.Test.YtnoejikcdigceaaDoorGKeep
set_option linter.unusedVariables false
set_option linter.unusedSimpArgs false
namespace Go.Proofs.YtnoejikcdigceaaDoor
open Go.RowKit
/-- None of line feed, blank, semicolon, colon among the first k. -/
def ClearTo (s : ByteArray) (k : Nat) : Prop := ∀ i, i < k → byteAt s i ≠ 10 ∧ byteAt s i ≠ 32 ∧ byteAt s i ≠ 59 ∧ byteAt s i ≠ 58
theorem clearTo_all (s : ByteArray) (h : ClearTo s s.size) : ClearW s.data.toList := by
  have key : ∀ c : UInt8, c ∈ s.data.toList → c ≠ 10 ∧ c ≠ 32 ∧ c ≠ 59 ∧ c ≠ 58 := by
    intro c hc
    obtain ⟨i, hi, e⟩ := byteAt_mem s c hc
    have := h i hi
    refine ⟨?_, ?_, ?_, ?_⟩ <;> (rintro rfl; simp at e; omega)
  exact ⟨fun h => (key _ h).2.1 rfl, fun h => (key _ h).2.2.1 rfl, fun h => (key _ h).1 rfl, fun h => (key _ h).2.2.2 rfl⟩
def LoopOut (s : ByteArray) (g : Value) : Prop := ∃ b : Bool, g = .bool b ∧ goodTo s s.size = b ∧ ClearTo s s.size
theorem names_call (s : ByteArray) (hsz : s.size ≤ 100) (m : Int) (r) (h : parseV (nameT s) = r) (w : World) (hm : w.cell? ⟨1, 0, none⟩ = some (.int .i64 m)) :
    Calls Tryd.prog 10 #[.string (s ++ ⟨#[58, 10, 106, 109, 112, 32]⟩ ++ s ++ ⟨#[10]⟩)] w (Parsed r w) := by
  rw [← h]
  refine parse_any (nameT s) ?_ m w hm
  unfold nameT
  simp only [ByteArray.size_append]
  show s.size + 6 + s.size + 1 ≤ _
  omega
set_option maxRecDepth 100000 in
set_option maxHeartbeats 8000000 in
theorem names_any (s : ByteArray) (hs : s.size ≤ 9223372036854775807) (m : Int) (w : World) (hm : w.cell? ⟨1, 0, none⟩ = some (.int .i64 m)) (hg : w.cell? ⟨0, 0, none⟩ = some (.iface 119 (.agg #[.pointer (some ⟨4, 28, none⟩)]))) :
    Calls Tryd.prog 4 #[.string s] w (RetT w) := by
  have HM := Lib.hid hm
  have HG := Lib.hid hg
  have h1w : 1 < w.heap.size := World.block_lt_of_cell? w _ hm
  clear hm hg
  by_cases hsz : (100 : Int) < (s.size : Int)
  · go_enter Tryd.func4, Tryd.ntmps4
    go_wp2_with (go_at_call 9; refine (awake_any m _ HM.out).mono ?_; rintro e w' ⟨rfl, hb⟩; have HB := Lib.hid hb; clear hb)
    go_ret
    exact ⟨rfl, HB.out⟩
  · have hg0 : Hid (goodTo s 0 = decide (1 ≤ (s.size : Int) ∧ (s.size : Int) ≤ 16)) := by show _ = _; unfold goodTo; simp
    go_enter Tryd.func4, Tryd.ntmps4
    go_upto_region 3 with fail
    go_cut [3] (fun g wz => g = .bool (goodTo s 0) ∧ w = wz)
    case first =>
      by_cases e1 : 1 ≤ (s.size : Int)
      · by_cases e2 : (s.size : Int) ≤ 16
        · have HE : Hid (goodTo s 0 = true) := by show _ = _; rw [hg0.out, decide_eq_true_eq]; exact ⟨e1, e2⟩
          go_wp2
          all_goals (go_meet; exact ⟨by rw [HE.out], rfl⟩)
        · have HE : Hid (goodTo s 0 = false) := by show _ = _; rw [hg0.out, decide_eq_false_iff_not]; exact fun h => e2 h.2
          go_wp2
          all_goals (go_meet; exact ⟨by rw [HE.out], rfl⟩)
      · have HE : Hid (goodTo s 0 = false) := by show _ = _; rw [hg0.out, decide_eq_false_iff_not]; exact fun h => e1 h.1
        go_wp2
        all_goals (go_meet; exact ⟨by rw [HE.out], rfl⟩)
    case rest =>
      obtain ⟨rfl, rfl⟩ := hcut
      clear hg0
      go_upto_block 0 with fail
      go_cut [3] (fun g wz => LoopOut s g ∧ w = wz)
      case first =>
        go_wp2_with fail
        go_loop [3, 4] (fun g i => ∃ (k : Nat) (b : Bool), i = .int .i64 k ∧ k ≤ s.size ∧ g = .bool b ∧ Hid (goodTo s k = b) ∧ Hid (ClearTo s k)) (fun _ i => s.size - (intOf i).toNat)
        case atStart => exact ⟨0, goodTo s 0, rfl, Nat.zero_le _, rfl, rfl, fun i hi => absurd hi (Nat.not_lt_zero _)⟩
        case round =>
          obtain ⟨k, b, rfl, hk, rfl, HGB, HCL⟩ := hrel
          by_cases hlt : k < s.size
          · have y0 := byte_lo s[k]
            have y1 := byte_hi s[k]
            have HC2 : Hid (((s[k].toNat : Int) == 10) = false → ((s[k].toNat : Int) == 32) = false → ((s[k].toNat : Int) == 59) = false → ((s[k].toNat : Int) == 58) = false → ClearTo s (k + 1)) := by
              intro h1 h2 h3 h4 i hi
              by_cases e : i < k
              · exact HCL.out i e
              · obtain rfl : i = k := by omega
                rw [← byteAt_of s i hlt]
                exact ⟨by simpa using h1, by simpa using h2, by simpa using h3, by simpa using h4⟩
            have hbad : (((s[k].toNat : Int) == 10) = true) ∨ (((s[k].toNat : Int) == 10) = false ∧ ((s[k].toNat : Int) == 32) = true) ∨ (((s[k].toNat : Int) == 10) = false ∧ ((s[k].toNat : Int) == 32) = false ∧ ((s[k].toNat : Int) == 59) = true) ∨
                (((s[k].toNat : Int) == 10) = false ∧ ((s[k].toNat : Int) == 32) = false ∧ ((s[k].toNat : Int) == 59) = false ∧ ((s[k].toNat : Int) == 58) = true) ∨ (((s[k].toNat : Int) == 10) = false ∧ ((s[k].toNat : Int) == 32) = false ∧ ((s[k].toNat : Int) == 59) = false ∧ ((s[k].toNat : Int) == 58) = false) := by
              simp only [beq_iff_eq, beq_eq_false_iff_ne]; omega
            rcases hbad with q1 | ⟨q1, q2⟩ | ⟨q1, q2, q3⟩ | ⟨q1, q2, q3, q4⟩ | ⟨q1, q2, q3, q4⟩
            iterate 4
              · go_wp2_with (go_at_call 9; refine (awake_any m _ HM.out).mono ?_; rintro e w' ⟨rfl, hb⟩; have HB := Lib.hid hb; clear hb)
                go_ret
                exact ⟨rfl, HB.out⟩
            · have HC3 := Lib.hid (HC2.out q1 q2 q3 q4)
              cases b
              · have HG2 : Hid (goodTo s (k + 1) = false) := by show _ = _; rw [goodTo_succ, HGB.out]; rfl
                go_wp2
                go_round
                case rel => exact ⟨k + 1, false, by go_num, by omega, rfl, HG2.out, HC3.out⟩
                case measure => simp [intOf]; omega
              · have HG2 : Hid (∀ b, okAt s k = b → goodTo s (k + 1) = b) := by intro b h; rw [goodTo_succ, HGB.out, h]; rfl
                have hB := byteAt_of s k hlt
                have hcs : (97 ≤ (s[k].toNat : Int) ∧ (s[k].toNat : Int) ≤ 122) ∨ (97 ≤ (s[k].toNat : Int) ∧ ¬ (s[k].toNat : Int) ≤ 122 ∧ 48 ≤ (s[k].toNat : Int) ∧ ¬ (s[k].toNat : Int) ≤ 57 ∧ ¬ (0 : Int) < (k : Int)) ∨ (97 ≤ (s[k].toNat : Int) ∧ ¬ (s[k].toNat : Int) ≤ 122 ∧ 48 ≤ (s[k].toNat : Int) ∧ ¬ (s[k].toNat : Int) ≤ 57 ∧ (0 : Int) < (k : Int)) ∨
                    (¬ 97 ≤ (s[k].toNat : Int) ∧ ¬ (0 : Int) < (k : Int)) ∨ (¬ 97 ≤ (s[k].toNat : Int) ∧ (0 : Int) < (k : Int) ∧ ¬ 48 ≤ (s[k].toNat : Int)) ∨ (¬ 97 ≤ (s[k].toNat : Int) ∧ (0 : Int) < (k : Int) ∧ 48 ≤ (s[k].toNat : Int) ∧ (s[k].toNat : Int) ≤ 57) ∨
                    (¬ 97 ≤ (s[k].toNat : Int) ∧ (0 : Int) < (k : Int) ∧ 48 ≤ (s[k].toNat : Int) ∧ ¬ (s[k].toNat : Int) ≤ 57) := by omega
                have HBY := Lib.hid hB
                clear hB
                rcases hcs with ⟨r1, r2⟩ | ⟨r1, r2, r3, r4, r5⟩ | ⟨r1, r2, r3, r4, r5⟩ | ⟨r1, r2⟩ | ⟨r1, r2, r3⟩ | ⟨r1, r2, r3, r4⟩ | ⟨r1, r2, r3, r4⟩
                all_goals
                  first
                    | (have HOK : Hid (okAt s k = true) := by { show _ = _; unfold okAt; rw [decide_eq_true_eq, ← HBY.out]; omega }
                       have HG3 := Lib.hid (HG2.out _ HOK.out)
                       go_wp2
                       go_round
                       case rel => exact ⟨k + 1, true, by go_num, by omega, rfl, HG3.out, HC3.out⟩
                       case measure => simp [intOf]; omega)
                    | (have HOK : Hid (okAt s k = false) := by { show _ = _; unfold okAt; rw [decide_eq_false_iff_not, ← HBY.out]; omega }
                       have HG3 := Lib.hid (HG2.out _ HOK.out)
                       go_wp2
                       go_round
                       case rel => exact ⟨k + 1, false, by go_num, by omega, rfl, HG3.out, HC3.out⟩
                       case measure => simp [intOf]; omega)
          · obtain rfl : k = s.size := by omega
            go_wp2
            all_goals (go_meet; exact ⟨⟨b, rfl, HGB.out, HCL.out⟩, rfl⟩)
      case rest =>
        obtain ⟨⟨b, rfl, hgb, hcl⟩, rfl⟩ := hcut
        have HGB := Lib.hid hgb
        have HCL := Lib.hid (clearTo_all s hcl)
        clear hgb hcl
        cases b
        · have hpr := names_call s (by omega) m _ (names_er s HCL.out (by
            cases h : nameV s
            · rfl
            · have := (name_good s h).1; rw [HGB.out] at this; cases this))
          have HPR := Lib.hid hpr
          clear hpr
          go_wp2_with fail
          refine (HPR.out _ HM.out).mono ?_
          rintro e w1 ⟨line, v, rfl, ⟨b, inner, rfl, hbl, hbc, hin⟩, hln, hb1⟩
          obtain rfl := hln rfl
          obtain rfl := hin rfl
          have HB1 := Lib.hid hb1
          have hz1 := hb1.size
          have HBC := Lib.hid hbc
          have HM1 : Hid (w1.cell? ⟨1, 0, none⟩ = some (.int .i64 m)) := (below_cell hb1 h1w).trans HM.out
          have HG1 : Hid (w1.cell? ⟨0, 0, none⟩ = some (.iface 119 (.agg #[.pointer (some ⟨4, 28, none⟩)]))) := (below_cell hb1 (by omega)).trans HG.out
          clear hb1 hbc hin hln HPR
          go_wp2_with fail
          refine (no_any _ 0 6 w1).mono ?_
          rintro e w2 ⟨p, rfl, hp, hfa, hb2⟩
          have HFA := Lib.hid hfa
          have HB2 := Lib.hid hb2
          have hz2 := hb2.size
          have HBC2 : Hid (w2.heap[b]? = some (.cells #[.string ⟨#[97, 115, 109]⟩, .int .i64 0, .iface 41 (.int .i64 6)] 72 (0, 0))) := by
            show _ = _
            rw [hb2.block b (Array.getElem?_eq_some_iff.1 HBC.out).1]; exact HBC.out
          have HM2 : Hid (w2.cell? ⟨1, 0, none⟩ = some (.int .i64 m)) := (below_cell hb2 (by omega)).trans HM1.out
          have HG2 : Hid (w2.cell? ⟨0, 0, none⟩ = some (.iface 119 (.agg #[.pointer (some ⟨4, 28, none⟩)]))) := (below_cell hb2 (by omega)).trans HG1.out
          clear hfa hb2 HBC
          go_wp2_with fail
          refine (same_one b p _ 0 6 (by omega) (by omega) w2 HBC2.out HFA.out HG2.out).mono ?_
          rintro e w3 ⟨rfl, hb3⟩
          have HB3 := Lib.hid hb3
          have hz3 := hb3.size
          have HM3 : Hid (w3.cell? ⟨1, 0, none⟩ = some (.int .i64 m)) := (below_cell hb3 (by omega)).trans HM2.out
          clear hb3
          go_wp2_with fail
          refine (awake_any m _ HM3.out).mono ?_
          rintro e w4 ⟨rfl, hb4⟩
          have HB4 := Lib.hid hb4
          clear hb4
          go_wp2
          go_ret
          exact ⟨rfl, HB1.out.trans ((HB2.out.mono hz1).trans ((HB3.out.mono (by omega)).trans (HB4.out.mono (by omega))))⟩
        · have h1 : 1 ≤ s.size := by
            have h := HGB.out
            unfold goodTo at h
            rw [Bool.and_eq_true, decide_eq_true_eq] at h
            omega
          have h0 : 0 < s.size := h1
          go_upto_region 11 with fail
          go_cut [86] (fun t wz => t = .bool (regLike s) ∧ w = wz)
          case first =>
            have e0 := byteAt_of s 0 h0
            have HE0 := Lib.hid e0
            clear e0
            by_cases k1 : byteAt s 0 = 114
            · have q1 : ((s[0].toNat : Int) == 114) = true := by rw [beq_iff_eq, HE0.out]; exact k1
              by_cases k2 : 1 < s.size
              · have k3 : (1 : Int) < (s.size : Int) := by omega
                have HE1 := Lib.hid (byteAt_of s 1 k2)
                by_cases k4 : 48 ≤ (s[1].toNat : Int)
                · by_cases k5 : (s[1].toNat : Int) ≤ 57
                  · have HR : Hid (regLike s = true) := by
                      show _ = _; unfold regLike; rw [decide_eq_true_eq, ← HE1.out]; exact ⟨k1, k3, k4, k5⟩
                    clear k1
                    go_wp2
                    all_goals (go_meet; exact ⟨by rw [HR.out], rfl⟩)
                  · have HR : Hid (regLike s = false) := by
                      show _ = _; unfold regLike; rw [decide_eq_false_iff_not]; rintro ⟨_, _, h3, h4⟩; rw [← HE1.out] at h4; exact k5 h4
                    clear k1
                    go_wp2
                    all_goals (go_meet; exact ⟨by rw [HR.out], rfl⟩)
                · have HR : Hid (regLike s = false) := by
                    show _ = _; unfold regLike; rw [decide_eq_false_iff_not]; rintro ⟨_, _, h3, h4⟩; rw [← HE1.out] at h3; exact k4 h3
                  clear k1
                  go_wp2
                  all_goals (go_meet; exact ⟨by rw [HR.out], rfl⟩)
              · have k3 : ¬ (1 : Int) < (s.size : Int) := by omega
                have HR : Hid (regLike s = false) := by
                  show _ = _; unfold regLike; rw [decide_eq_false_iff_not]; rintro ⟨_, h2, _, _⟩; omega
                clear k1
                go_wp2
                all_goals (go_meet; exact ⟨by rw [HR.out], rfl⟩)
            · have q1 : ((s[0].toNat : Int) == 114) = false := by rw [beq_eq_false_iff_ne, HE0.out]; exact k1
              have HR : Hid (regLike s = false) := by
                show _ = _; unfold regLike; rw [decide_eq_false_iff_not]; rintro ⟨h1, _, _, _⟩; exact k1 h1
              clear k1
              go_wp2
              all_goals (go_meet; exact ⟨by rw [HR.out], rfl⟩)
          case rest =>
            obtain ⟨rfl, rfl⟩ := hcut
            cases hrl : regLike s
            case true =>
              clear hrl
              go_wp2_with (go_at_call 9; refine (awake_any m _ HM.out).mono ?_; rintro e w' ⟨rfl, hb⟩; have HB := Lib.hid hb; clear hb)
              go_ret
              exact ⟨rfl, HB.out⟩
            have hnm := good_name s HGB.out hrl
            have hpr := names_call s (by omega) m _ (names_ok s HCL.out hnm)
            have HPR := Lib.hid hpr
            clear hpr hrl hnm
            go_wp2_with fail
            refine (HPR.out _ HM.out).mono ?_
            rintro e w1 ⟨vl, vb, rfl, hl, hb, hb1⟩
            obtain ⟨gl, cl, rfl⟩ := owns_some hl (by simp)
            obtain ⟨gb, cb, rfl⟩ := owns_some hb (by simp)
            have l4 : w1.cell? ⟨gl, 4, none⟩ = some (.int .u64 0) := owns_cell hl rfl
            have b0 : w1.cell? ⟨gb, 0, none⟩ = some (.string s) := owns_cell hb rfl
            have HB1 := Lib.hid hb1
            have HM1 : Hid (w1.cell? ⟨1, 0, none⟩ = some (.int .i64 m)) := (below_cell hb1 h1w).trans HM.out
            have hss : (s.toList == s.toList) = true := by simp
            have hz1 := hb1.size
            clear hl hb hb1 HPR
            simp only [List.length_cons, List.length_nil]
            go_wp2_with (go_at_call 9; refine (awake_any m _ HM1.out).mono ?_; rintro e w' ⟨rfl, hb⟩; have HB := Lib.hid hb; clear hb)
            go_ret
            exact ⟨rfl, HB1.out.trans (HB.out.mono hz1)⟩
end Go.Proofs.YtnoejikcdigceaaDoor
