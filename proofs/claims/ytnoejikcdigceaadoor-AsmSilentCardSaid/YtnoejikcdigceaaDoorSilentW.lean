/- The walk of AsmSilent. -/
import Derived.Test.YtnoejikcdigceaaDoorSilentK
import Derived.Deep.DeepCutAuto
import Derived.StillTailTactics
import Derived.Deep.RegionHeld3
import Derived.BigQuiet
set_option linter.unusedVariables false
set_option linter.unusedSimpArgs false
namespace Go.Proofs.YtnoejikcdigceaaDoor
open Go.RowKit
set_option maxRecDepth 100000 in
set_option maxHeartbeats 8000000 in
theorem silent_big (s : ByteArray) (hs : s.size ≤ 9223372036854775807) (at_ n0 : Int) (m : Int) (w : World) (hm : w.cell? ⟨1, 0, none⟩ = some (.int .i64 m)) (hsz : (5000 : Int) < (s.size : Int)) :
    Calls Tryd.prog 3 #[.string s, .int .i64 at_, .int .i64 n0] w (RetT w) := by
  have HM := Lib.hid hm
  clear hm
  go_enter Tryd.func3, Tryd.ntmps3
  go_wp2_with (go_at_call 8; refine (within_any _ _ (by decide) _).mono ?_; rintro e w' ⟨rfl, rfl⟩)
  refine (awake_any m _ HM.out).mono ?_
  rintro e w' ⟨rfl, hb⟩
  have HB := Lib.hid hb
  clear hb
  go_wp2
  go_ret
  exact ⟨rfl, HB.out⟩
def CutAt (s : ByteArray) (k : Nat) : Prop := k ≤ s.size ∧ (k = 0 ∨ byteAt s (k - 1) = 10)
def withMore (s : ByteArray) (k n : Nat) : ByteArray := s.extract 0 k ++ moreV n ++ s.extract k s.size
theorem cut_join (s : ByteArray) (k : Nat) : s.extract 0 k ++ s.extract k s.size = s := by
  apply ByteArray.ext
  simp
theorem silent_law (s : ByteArray) (k n : Nat) (h : CutAt s k) (hn : n < 5) : SimP (parseV s) (parseV (withMore s k n)) := by
  have h1 : (s.extract 0 k).data.toList = [] ∨ ∃ A, (s.extract 0 k).data.toList = A ++ [10] := by
    by_cases h0 : k = 0
    · left; subst h0; simp
    · right
      have hk := h.1
      have h10 : byteAt s (k - 1) = 10 := h.2.resolve_left h0
      have hlt : k - 1 < s.size := by omega
      refine ⟨s.data.toList.take (k - 1), ?_⟩
      have e1 : (s.extract 0 k).data.toList = s.data.toList.take (k - 1 + 1) := by
        rw [show k - 1 + 1 = k from by omega]; simp
      rw [e1, List.take_succ_eq_append_getElem (by simpa using hlt)]
      congr 1
      rw [← byteAt_of s (k - 1) hlt] at h10
      have : s[k - 1] = 10 := by
        apply UInt8.toNat_inj.1
        show (s[k - 1]).toNat = 10
        omega
      show [s[k - 1]] = [10]
      rw [this]
  have := parse_silent (s.extract 0 k) (moreV n) (s.extract k s.size) (silL.take n) h1 (moreV_data n hn) (fun x hx => silL_nl x (List.mem_of_mem_take hx)) (fun x hx => silL_words x (List.mem_of_mem_take hx))
  rw [cut_join] at this
  exact this
theorem SimP.err_right {t : Bool × Int} {r} (h : SimP (.error t) r) : ∃ u, r = .error u := by
  generalize he : (Except.error t : Except (Bool × Int) (List Ins × List (ByteArray × Int))) = r0 at h
  cases h with
  | ok => cases he
  | err => exact ⟨_, rfl⟩
theorem SimP.ok_right {x : List Ins × List (ByteArray × Int)} {r} (h : SimP (.ok x) r) : r = .ok x := by
  cases h with
  | ok => rfl
theorem silent_call (s : ByteArray) (k n : Nat) (hsz : s.size ≤ 5000) (hn : n < 5) (m : Int) (r) (h : parseV (withMore s k n) = r) (w : World) (hm : w.cell? ⟨1, 0, none⟩ = some (.int .i64 m)) :
    Calls Tryd.prog 10 #[.string (s.extract 0 k ++ moreV n ++ s.extract k s.size)] w (Parsed r w) := by
  rw [← h]
  have hmo := moreV_size n hn
  exact parse_any (withMore s k n) (by unfold withMore; simp; omega) m w hm
theorem parseV_len {s : ByteArray} {code : List Ins} {labels : List (ByteArray × Int)} (h : parseV s = .ok (code, labels)) : code.length ≤ 2048 := by
  unfold parseV parseLs at h
  split at h
  · cases h
  · split at h
    · rename_i st _ r hr
      injection h with h; subst h
      unfold parseEnd at hr
      split at hr
      · cases hr
      · split at hr
        · cases hr
        · split at hr
          · cases hr
          · injection hr with hr; injection hr with h1 h2; subst h1; omega
    · cases h
def CutR (s : ByteArray) (sl : Value) : Prop := ∃ k : Nat, sl = .int .i64 k ∧ CutAt s k
set_option maxRecDepth 100000 in
set_option maxHeartbeats 8000000 in
theorem silent_small (s : ByteArray) (at_ n0 : Int) (m : Int) (w : World) (hm : w.cell? ⟨1, 0, none⟩ = some (.int .i64 m)) (hsz : ¬ (5000 : Int) < (s.size : Int)) :
    Calls Tryd.prog 3 #[.string s, .int .i64 at_, .int .i64 n0] w (RetT w) := by
  have HM := Lib.hid hm
  have h1w : 1 < w.heap.size := World.block_lt_of_cell? w _ hm
  clear hm
  have hn5 := withinV_pos n0 5 (by decide)
  obtain ⟨n, hn⟩ : ∃ n : Nat, withinV n0 5 = (n : Int) := ⟨(withinV n0 5).toNat, by omega⟩
  have HN := Lib.hid hn
  rw [hn] at hn5
  clear hn
  have hk5 := withinV_pos at_ ((s.size : Int) + 1) (by omega)
  obtain ⟨k0, hk⟩ : ∃ k0 : Nat, withinV at_ ((s.size : Int) + 1) = (k0 : Int) := ⟨(withinV at_ ((s.size : Int) + 1)).toNat, by omega⟩
  have HK := Lib.hid hk
  rw [hk] at hk5
  clear hk
  go_enter Tryd.func3, Tryd.ntmps3
  go_wp2_with fail
  refine (within_any n0 5 (by decide) _).mono ?_
  rintro e w' ⟨rfl, rfl⟩
  rw [HN.out]
  go_wp2_with fail
  refine (within_any at_ ((s.size : Int) + 1) (by omega) _).mono ?_
  rintro e w' ⟨rfl, rfl⟩
  rw [HK.out]
  go_upto_block 0 with fail
  go_cut [7] (fun s7 wz => CutR s s7 ∧ w = wz)
  case first =>
    go_wp2_with fail
    go_loop [7] (fun i => ∃ k : Nat, i = .int .i64 k ∧ k ≤ s.size) (fun i => (intOf i).toNat)
    case atStart => exact ⟨k0, rfl, by omega⟩
    case round =>
      obtain ⟨k, rfl, hk⟩ := hrel
      by_cases h0 : k = 0
      · subst h0
        go_wp2
        all_goals (go_meet; exact ⟨⟨0, rfl, Nat.zero_le _, Or.inl rfl⟩, rfl⟩)
      · have hk1 : k - 1 < s.size := by omega
        have hk2 : (0 : Int) < (k : Int) := by omega
        by_cases hb : byteAt s (k - 1) = 10
        · have b1 : ((s[k - 1].toNat : Int) != 10) = false := by rw [byteAt_of, bne_eq_false_iff_eq]; exact hb
          have HC : Hid (CutAt s k) := ⟨hk, Or.inr hb⟩
          clear hb h0
          go_wp2
          all_goals (go_meet; exact ⟨⟨k, rfl, HC.out⟩, rfl⟩)
        · have b1 : ((s[k - 1].toNat : Int) != 10) = true := by rw [byteAt_of, bne_iff_ne]; exact hb
          clear hb h0
          go_wp2
          all_goals
            go_round
            case rel => exact ⟨k - 1, by go_num, by omega⟩
            case measure => simp [intOf]; omega
  case rest =>
    obtain ⟨⟨k, rfl, hcut⟩, rfl⟩ := hcut
    have HCUT := Lib.hid hcut
    have hks : k ≤ s.size := hcut.1
    clear hcut
    go_upto_block 2 with fail
    go_cut [8] (fun s8 wz => s8 = .string (moreV n) ∧ Below w.heap.size w wz)
    case first =>
      go_wp2_with fail
      go_loopw [8, 9] (fun s8 s9 wz => ∃ i : Nat, s9 = .int .i64 i ∧ i ≤ n ∧ s8 = .string (moreV i) ∧ Below w.heap.size w wz) (fun _ i _ => n - (intOf i).toNat)
      case atStart => exact ⟨0, rfl, Nat.zero_le _, rfl, Below.refl _ _⟩
      case round =>
        obtain ⟨i, rfl, hi, rfl, hb⟩ := hrel
        have HB := Lib.hid hb
        have hbs := hb.size
        clear hb
        have hms := moreV_size i (by omega)
        by_cases hin : i < n
        · have h4 : i = 0 ∨ i = 1 ∨ i = 2 ∨ i = 3 := by omega
          rcases h4 with rfl | rfl | rfl | rfl
          all_goals
            go_wp2
            go_roundw
            case rel => first | exact ⟨1, rfl, by omega, rfl, HB.out.alloc (by omega) _⟩ | exact ⟨2, rfl, by omega, rfl, HB.out.alloc (by omega) _⟩ | exact ⟨3, rfl, by omega, rfl, HB.out.alloc (by omega) _⟩ | exact ⟨4, rfl, by omega, rfl, HB.out.alloc (by omega) _⟩
            case measure => simp [intOf]; omega
        · obtain rfl : i = n := by omega
          go_wp2
          all_goals (go_meet; exact ⟨rfl, HB.out⟩)
    case rest =>
      obtain ⟨w1, hw1⟩ : ∃ w1, wc = w1 := ⟨_, rfl⟩
      subst hw1
      obtain ⟨rfl, hb1⟩ := hcut
      have HB1 := Lib.hid hb1
      have hbs1 := hb1.size
      have HM1 : Hid (wc.cell? ⟨1, 0, none⟩ = some (.int .i64 m)) := (below_cell hb1 h1w).trans HM.out
      clear hb1
      have HPA := Lib.hid (parse_any s (by omega) m wc HM1.out)
      go_wp2_with fail
      refine HPA.out.mono ?_
      have HS := silent_law s k n HCUT.out (by omega)
      rcases hp1 : parseV s with ⟨t1, i1⟩ | ⟨code, labels⟩
      · rw [hp1] at HS
        obtain ⟨⟨t2, i2⟩, hp2⟩ := HS.err_right
        clear HS hp1
        rintro e w2 ⟨line1, v1, rfl, ⟨b1, in1, rfl, hbl1, hcl1, htx1⟩, ht1, hb2⟩
        have HM2 : Hid (w2.cell? ⟨1, 0, none⟩ = some (.int .i64 m)) := (below_cell hb2 (by omega)).trans HM1.out
        have hb3 := HB1.out.trans (hb2.mono hbs1)
        have HB3 := Lib.hid hb3
        have hbs3 := hb3.size
        have hmo := moreV_size n (by omega)
        have HPB := Lib.hid (silent_call s k n (by omega) (by omega) m _ hp2)
        have hc1 := fun W => run_string_add_sum (P := Tryd.prog) (w := W) (s.extract 0 k) (moreV n) (by simp; omega)
        have hc2 := fun W => run_string_add_sum (P := Tryd.prog) (w := W) (s.extract 0 k ++ moreV n) (s.extract k s.size) (by simp; omega)
        have hk0 : (0 : Int) ≤ (k : Int) := by omega
        have hk1 : (k : Int) ≤ (s.size : Int) := by omega
        clear hcl1 htx1 ht1 hb2 hb3 hp2
        go_wp2_with fail
        go_region_held3 (fun w' => True) (trivial) (first | (go_at_call 10; refine (HPB.out _ ?_).mono ?_; exact HM2.out; rintro e w3 ⟨line2, v2, rfl, ⟨b2, in2, rfl, hbl2, hcl2, htx2⟩, ht2, hb4⟩))
        have HM3 : Hid (w3.cell? ⟨1, 0, none⟩ = some (.int .i64 m)) := (below_cell hb4 (by simp; omega)).trans HM2.out
        have HB5 : Hid (Below w.heap.size w w3) := HB3.out.trans (below_of_drew (hb4.mono (by simp; omega)))
        clear hc1 hc2 hcl2 htx2 ht2 hb4
        go_wp2_with (go_at_call 9; refine (awake_any m _ HM3.out).mono ?_; rintro e w' ⟨rfl, hb⟩; have HB := Lib.hid hb; clear hb)
        go_ret
        exact ⟨rfl, HB5.out.trans (HB.out.mono HB5.out.size)⟩
      · rw [hp1] at HS
        have hp2 := HS.ok_right
        have hlen := parseV_len hp1
        clear HS hp1
        rintro e w2 ⟨vl1, vb1, rfl, hl1, hlb1, hb2⟩
        have HM2 : Hid (w2.cell? ⟨1, 0, none⟩ = some (.int .i64 m)) := (below_cell hb2 (by omega)).trans HM1.out
        have hb3 := HB1.out.trans (hb2.mono hbs1)
        have HB3 := Lib.hid hb3
        have hbs3 := hb3.size
        have hmo := moreV_size n (by omega)
        have HPB := Lib.hid (silent_call s k n (by omega) (by omega) m _ hp2)
        have hc1 := fun W => run_string_add_sum (P := Tryd.prog) (w := W) (s.extract 0 k) (moreV n) (by simp; omega)
        have hc2 := fun W => run_string_add_sum (P := Tryd.prog) (w := W) (s.extract 0 k ++ moreV n) (s.extract k s.size) (by simp; omega)
        have hk0 : (0 : Int) ≤ (k : Int) := by omega
        have hk1 : (k : Int) ≤ (s.size : Int) := by omega
        have HL1 := Lib.hid hl1
        have HLB1 := Lib.hid hlb1
        obtain ⟨la1, lc1, rfl⟩ := owns_slice hl1
        obtain ⟨ba1, bc1, rfl⟩ := owns_slice hlb1
        clear hb2 hb3 hp2 hl1 hlb1
        go_wp2_with fail
        go_region_held3 (fun w' => True) (trivial) (first | (go_at_call 10; refine (HPB.out _ ?_).mono ?_; exact HM2.out; rintro e w3 ⟨vl2, vb2, rfl, hl2, hlb2, hb4⟩))
        have HM3 : Hid (w3.cell? ⟨1, 0, none⟩ = some (.int .i64 m)) := (below_cell hb4 (by simp; omega)).trans HM2.out
        have HB5 : Hid (Below w.heap.size w w3) := HB3.out.trans (below_of_drew (hb4.mono (by simp; omega)))
        have HL1' : Hid _ := Lib.hid (owns_below HL1.out (below_of_drew hb4))
        have HLB1' : Hid _ := Lib.hid (owns_below HLB1.out (below_of_drew hb4))
        have HL2 := Lib.hid hl2
        have HLB2 := Lib.hid hlb2
        obtain ⟨la2, lc2, rfl⟩ := owns_slice hl2
        obtain ⟨ba2, bc2, rfl⟩ := owns_slice hlb2
        have hsz3 := HB5.out.size
        clear hc1 hc2 hb4 hl2 hlb2 HPB HL1 HLB1
        go_wp2_with (go_at_call 11; refine (code_like code (by omega) _ HL1'.out HL2.out).mono ?_; rintro e w4 ⟨rfl, hb6⟩)
        have HB6 := Lib.hid hb6
        have hsz4 := hb6.size
        have HM4 : Hid (w4.cell? ⟨1, 0, none⟩ = some (.int .i64 m)) := (below_cell hb6 (by omega)).trans HM3.out
        have HLA : Hid _ := Lib.hid (owns_below HLB1'.out hb6)
        have HLC : Hid _ := Lib.hid (owns_below HLB2.out hb6)
        clear hb6 HL1' HLB1' HL2 HLB2
        obtain ⟨N, hN⟩ : ∃ N, N = labels.length := ⟨_, rfl⟩
        rw [← hN]
        have HN2 := Lib.hid hN
        clear hN
        go_loopw [16] (fun si wz => ∃ i : Nat, si = .int .i64 i ∧ i ≤ N ∧ Below w4.heap.size w4 wz) (fun si _ => N - (intOf si).toNat)
        case atStart => exact ⟨0, rfl, Nat.zero_le _, Below.refl _ _⟩
        case round =>
          obtain ⟨i, rfl, hi, hbz⟩ := hrel
          have HBZ := Lib.hid hbz
          have hbs := hbz.size
          by_cases hin : i < N
          · have hiL : i < labels.length := by rw [← HN2.out]; exact hin
            have hly : labels[i]? = some labels[i] := List.getElem?_eq_getElem hiL
            obtain ⟨y, hyy⟩ : ∃ y, y = labels[i] := ⟨_, rfl⟩
            rw [← hyy] at hly
            obtain ⟨f0, f1⟩ := flatLab_cells labels i y hly
            have ha := owns_below HLA.out hbz
            have hc := owns_below HLC.out hbz
            obtain ⟨ga, ca, hga⟩ := owns_some ha (by omega)
            obtain ⟨gc, cc, hgc⟩ := owns_some hc (by omega)
            injection hga with hga1 hga2 hga3
            injection hgc with hgc1 hgc2 hgc3
            subst hga1; subst hgc1
            have c1 : wr.cell? ⟨ga, i * 2, none⟩ = some (.string y.1) := owns_cell ha f0
            have c2 : wr.cell? ⟨ga, i * 2 + 1, none⟩ = some (.int .i64 y.2) := owns_cell ha f1
            have c3 : wr.cell? ⟨gc, i * 2, none⟩ = some (.string y.1) := owns_cell hc f0
            have c4 : wr.cell? ⟨gc, i * 2 + 1, none⟩ = some (.int .i64 y.2) := owns_cell hc f1
            have d1 : N ≤ bc1 := by obtain ⟨_, _, h, _⟩ := owns_block ha; rw [HN2.out]; exact h
            have d0 : bc1 ≤ 9223372036854775807 := by obtain ⟨_, _, _, h, _⟩ := owns_block ha; unfold maxLen at h; exact h
            have d2 : N ≤ bc2 := by obtain ⟨_, _, h, _⟩ := owns_block hc; rw [HN2.out]; exact h
            have hga4 := (ha.lt ga rfl).2
            have hgc4 := (hc.lt gc rfl).2
            have hi3 : (i : Int) < (N : Int) := by omega
            clear hga2 hga3 hgc2 hgc3 ha hc hly hyy f0 f1 hbz hiL
            go_wp2_with fail
            go_quiet (fail)
            go_wp2
            go_roundw
            case rel => exact ⟨i + 1, by go_num, by omega, below_drewN HBZ.out _⟩
            case measure => simp [intOf]; omega
          · have hi3 : ¬ (i : Int) < (N : Int) := by omega
            have HM5 : Hid (wr.cell? ⟨1, 0, none⟩ = some (.int .i64 m)) := (below_cell hbz (by omega)).trans HM4.out
            clear hbz
            go_wp2_with (go_at_call 9; refine (awake_any m _ HM5.out).mono ?_; rintro e w' ⟨rfl, hb⟩; have HB := Lib.hid hb; clear hb)
            go_ret
            exact ⟨rfl, HB5.out.trans (HB6.out.mono hsz3 |>.trans ((HBZ.out.mono (by omega)).trans (HB.out.mono (by omega))))⟩
end Go.Proofs.YtnoejikcdigceaaDoor
