/- asm.cellOf: contract. -/
import Derived.Test.YtnoejikcdigceaaDoorMark
import Derived.Test.YtnoejikcdigceaaDoorWords
set_option linter.unusedVariables false
set_option linter.unusedSimpArgs false
namespace Go.Proofs.YtnoejikcdigceaaDoor
open Go.RowKit
def cellBad (s : ByteArray) : Bool := decide ((s.size : Int) < 2 ∨ byteAt s 0 ≠ 91 ∨ byteAt s (s.size - 1) ≠ 93)
def numIn (X : Ins) : Except Int Int → Except Bool Ins
  | .ok v => .ok { X with v := v }
  | .error _ => .error false
def plusV (t : ByteArray) : Int := Lib.indexByte t.data.toList 43
def cellIn (X : Ins) (t : ByteArray) : Except Bool Ins :=
  if (regV t).2 then .ok { X with b := (regV t).1 }
  else if 0 ≤ plusV t then
    (if (regV (t.extract 0 (plusV t).toNat)).2 then numIn { X with b := (regV (t.extract 0 (plusV t).toNat)).1 } (wparse (t.extract ((plusV t).toNat + 1) t.size)) else .error true)
  else numIn { X with b := -1 } (wparse t)
def cellV (X : Ins) (s : ByteArray) : Except Bool Ins :=
  if cellBad s then .error true else cellIn X (s.extract 1 (s.size - 1))
theorem plus_call (s : ByteArray) (n : Int) (h : plusV s = n) (w : World) : Calls Tryd.prog 55 #[.string s, .int .u8 43] w (RetI .i64 n w) :=
  (Tryd.strings_IndexByte s 43 w).mono fun e w' ⟨h1, h2⟩ => ⟨by rw [h1, ← h]; rfl, h2.symm⟩
theorem reg_call (s : ByteArray) (hs : s.size ≤ maxLen) (n : Int) (b : Bool) (h : regV s = (n, b)) (w : World) : Calls Tryd.prog 56 #[.string s] w (RetIB .i64 (n, b) w) := by
  rw [← h]; exact register_any s hs w

set_option maxHeartbeats 4000000 in
theorem cell_any (s : ByteArray) (hs : s.size ≤ 65536) (line : Int) (bx : Nat) (X : Ins) (w : World) (hx : InsAt w bx X) :
    Calls Tryd.prog 58 #[.pointer (some ⟨bx, 0, none⟩), .string s, .int .i64 line] w (OpDone (cellV X s) bx line w) := by
  have c2 : w.cell? ⟨bx, 2, none⟩ = some (.int .i64 X.b) := hx.cell 2
  have c4 : w.cell? ⟨bx, 4, none⟩ = some (.int .u64 X.v) := hx.cell 4
  have f2 := hx.free 2
  have f4 := hx.free 4
  have hlt := hx.lt
  have HX := Lib.hid hx
  clear hx
  by_cases hb : cellBad s = true
  · have HE : Hid (cellV X s = .error true) := by show _ = _; unfold cellV; rw [if_pos hb]
    unfold cellBad at hb
    replace hb := of_decide_eq_true hb
    have HB := Lib.hid hb
    clear hb
    go_enter Tryd.func58, Tryd.ntmps58
    go_wp2_with (go_at_call 19; refine (afail_any _ _ _ _).mono ?_; rintro e w' ⟨rfl, rfl⟩)
    all_goals first
      | (go_ret; exact OpDone.text HE.out (by simp) (grown_refl w _))
      | (exfalso; have hb := HB.out; simp only [byteAt_of, bne_eq_false_iff_eq] at *; omega)
  · have HV : Hid (∀ t, s.extract 1 (s.size - 1) = t → cellV X s = cellIn X t) := by
      intro t h; subst h; unfold cellV; rw [if_neg hb]
    unfold cellBad at hb
    simp only [decide_eq_true_eq] at hb
    have p2 : 2 ≤ s.size := by omega
    have p0 : 0 < s.size := by omega
    have p1 : s.size - 1 < s.size := by omega
    have b0 : ((s[0].toNat : Int) != 91) = false := by rw [byteAt_of, bne_eq_false_iff_eq]; omega
    have b1 : ((s[s.size - 1].toNat : Int) != 93) = false := by rw [byteAt_of, bne_eq_false_iff_eq]; omega
    clear hb
    go_enter Tryd.func58, Tryd.ntmps58
    go_wp2_with fail
    have ht : (s.extract 1 (s.size - 1)).size ≤ 65536 := by simp; omega
    generalize hT : s.extract 1 (s.size - 1) = t at *
    have HT := Lib.hid (HV.out t rfl)
    clear HV hT b0 b1
    have hu : t.size ≤ maxLen := by unfold maxLen; omega
    rcases hr : regV t with ⟨n, b⟩
    cases b
    · have HR := Lib.hid (reg_call t hu n false hr)
      have HM : Hid (cellV X s = if 0 ≤ plusV t then
          (if (regV (t.extract 0 (plusV t).toNat)).2 then numIn { X with b := (regV (t.extract 0 (plusV t).toNat)).1 } (wparse (t.extract ((plusV t).toNat + 1) t.size)) else .error true)
          else numIn { X with b := -1 } (wparse t)) := by
        show _ = _; rw [HT.out]; unfold cellIn; rw [hr]; rfl
      clear hr HT
      refine (HR.out _).mono ?_
      rintro e w' ⟨rfl, rfl⟩
      clear HR
      by_cases hpl : 0 ≤ plusV t
      · obtain ⟨q, hq⟩ := Int.eq_ofNat_of_zero_le hpl
        have hql : q < t.size := by
          rcases idxLt t.data.toList 43 with h | h
          · have : Lib.indexByte t.data.toList 43 = q := hq
            rw [this] at h; simp at h; exact h
          · exfalso; have : Lib.indexByte t.data.toList 43 = q := hq
            rw [h] at this; simp [Lib.indexByte] at this
        have HC := Lib.hid (plus_call t q hq)
        have HM2 : Hid (cellV X s = if (regV (t.extract 0 q)).2 then numIn { X with b := (regV (t.extract 0 q)).1 } (wparse (t.extract (q + 1) t.size)) else .error true) := by
          show _ = _; rw [HM.out, if_pos hpl, hq]; rfl
        clear hq hpl HM
        go_wp2_with (go_at_call 55; refine (HC.out _).mono ?_; rintro e w' ⟨rfl, rfl⟩)
        clear HC
        have hy : (t.extract 0 q).size ≤ maxLen := by unfold maxLen; simp; omega
        have hz : (t.extract (q + 1) t.size).size ≤ maxLen := by unfold maxLen; simp; omega
        generalize hY : t.extract 0 q = y at *
        generalize hZ : t.extract (q + 1) t.size = z at *
        clear hY
        rcases hr2 : regV y with ⟨n2, b2⟩
        have HR2 := Lib.hid (reg_call y hy n2 b2 hr2)
        cases b2
        · have HE : Hid (cellV X s = .error true) := by show _ = _; rw [HM2.out, hr2]; rfl
          clear hr2 HM2 hZ
          refine (HR2.out _).mono ?_
          rintro e w' ⟨rfl, rfl⟩
          go_wp2_with (go_at_call 19; refine (afail_any _ _ _ _).mono ?_; rintro e w' ⟨rfl, rfl⟩)
          go_ret
          exact OpDone.text HE.out (by simp) (grown_set (grown_set (grown_refl w _) _ _) _ _)
        · have HM3 : Hid (cellV X s = numIn { X with b := n2 } (wparse z)) := by show _ = _; rw [HM2.out, hr2]; rfl
          clear hr2 HM2
          have HZ := Lib.hid hZ
          clear hZ
          refine (HR2.out _).mono ?_
          rintro e w' ⟨rfl, rfl⟩
          clear HR2
          go_wp2_with fail
          rw [HZ.out]
          have hu := hz
          rcases hp : wparse z with j | v
          · have HE : Hid (cellV X s = .error false) := by show _ = _; rw [HM3.out, hp]; rfl
            have HN := Lib.hid (number_er z hu j hp)
            clear hp
            refine (HN.out _ _).mono ?_
            rintro e w' ⟨rfl, rfl⟩
            go_wp2
            go_ret
            exact OpDone.num HE.out (by simp) (by repeat (first | exact grown_refl _ _ | refine grown_set ?_ _ _ | refine grown_alloc ?_ _))
          · have HE : Hid (cellV X s = .ok { ({ X with b := n2 } : Ins) with v := v }) := by show _ = _; rw [HM3.out, hp]; rfl
            have HN := Lib.hid (number_ok z hu v hp)
            clear hp
            refine (HN.out _ _).mono ?_
            rintro e w' ⟨rfl, h0, hv1, rfl⟩
            go_wp2
            go_ret
            exact OpDone.good _ HE.out (((HX.out.set_b (-1)).set_b n2).set_v v) (grown_set (grown_set (grown_set (grown_refl w _) _ _) _ _) _ _)
      · have hneg : plusV t = -1 := by have := Lib.indexByte_ge t.data.toList 43; unfold plusV at *; omega
        have HC := Lib.hid (plus_call t (-1) hneg)
        have HM2 : Hid (cellV X s = numIn { X with b := -1 } (wparse t)) := by
          show _ = _; rw [HM.out, if_neg hpl]
        clear hneg hpl HM
        go_wp2_with (go_at_call 55; refine (HC.out _).mono ?_; rintro e w' ⟨rfl, rfl⟩)
        clear HC
        rcases hp : wparse t with j | v
        · have HE : Hid (cellV X s = .error false) := by show _ = _; rw [HM2.out, hp]; rfl
          have HN := Lib.hid (number_er t hu j hp)
          clear hp
          refine (HN.out _ _).mono ?_
          rintro e w' ⟨rfl, rfl⟩
          go_wp2
          go_ret
          exact OpDone.num HE.out (by simp) (by repeat (first | exact grown_refl _ _ | refine grown_set ?_ _ _ | refine grown_alloc ?_ _))
        · have HE : Hid (cellV X s = .ok { ({ X with b := -1 } : Ins) with v := v }) := by show _ = _; rw [HM2.out, hp]; rfl
          have HN := Lib.hid (number_ok t hu v hp)
          clear hp
          refine (HN.out _ _).mono ?_
          rintro e w' ⟨rfl, h0, hv1, rfl⟩
          go_wp2
          go_ret
          exact OpDone.good _ HE.out ((HX.out.set_b (-1)).set_v v) (grown_set (grown_set (grown_refl w _) _ _) _ _)
    · have HR := Lib.hid (reg_call t hu n true hr)
      have HE : Hid (cellV X s = .ok { X with b := n }) := by show _ = _; rw [HT.out]; unfold cellIn; rw [hr]; rfl
      clear hr
      refine (HR.out _).mono ?_
      rintro e w' ⟨rfl, rfl⟩
      go_wp2
      go_ret
      exact OpDone.good _ HE.out (HX.out.set_b n) (grown_set (grown_refl w _) _ _)
end Go.Proofs.YtnoejikcdigceaaDoor
