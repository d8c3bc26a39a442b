/- asm.shown, asm.marked: contracts. -/
import Derived.Test.YtnoejikcdigceaaDoorPrintA
import Derived.Test.YtnoejikcdigceaaDoorPrintB
import Derived.Test.YtnoejikcdigceaaDoorMix
import Derived.Laws.Concat
import Derived.Deep.RegionHeld3
set_option linter.unusedVariables false
set_option linter.unusedSimpArgs false
namespace Go.Proofs.YtnoejikcdigceaaDoor
open Go.RowKit
def regS (n : Int) : ByteArray := ⟨#[114]⟩ ++ decB n.toNat
/-- How an operand of a kind is written. -/
def shownV (X : Ins) (kd : Int) : ByteArray :=
  if kd = 1 then regS X.a
  else if kd = 5 then (if X.b = -1 then decB X.v.toNat else regS X.b)
  else if kd = 2 then regS X.b
  else if kd = 4 then (if X.c = -1 then decB X.v.toNat else regS X.c)
  else if kd = 3 then regS X.c
  else if kd = 6 then (if X.b = -1 then ⟨#[91]⟩ ++ decB X.v.toNat ++ ⟨#[93]⟩ else if X.v = 0 then ⟨#[91]⟩ ++ regS X.b ++ ⟨#[93]⟩ else ⟨#[91]⟩ ++ regS X.b ++ ⟨#[43]⟩ ++ decB X.v.toNat ++ ⟨#[93]⟩)
  else if kd = 8 then ⟨#[112]⟩ ++ decB X.v.toNat
  else decB X.v.toNat
def RetSN (s : ByteArray) (w : World) (e : Ending) (w' : World) : Prop := e = .returned (.string s) ∧ Below w.heap.size w w'
theorem RetSN.mk {s t : ByteArray} {w w' : World} (h : s = t) (hb : Below w.heap.size w w') : RetSN s w (.returned (.string t)) w' := ⟨by rw [h], hb⟩
/-- Whether the fields of an operand of a kind may be written. -/
structure ShowOk (X : Ins) (kd : Int) : Prop where
  a : kd = 1 → 0 ≤ X.a ∧ X.a ≤ 31
  b : kd = 2 ∨ (kd = 5 ∧ X.b ≠ -1) ∨ (kd = 6 ∧ X.b ≠ -1) → 0 ≤ X.b ∧ X.b ≤ 31
  c : kd = 3 ∨ (kd = 4 ∧ X.c ≠ -1) → 0 ≤ X.c ∧ X.c ≤ 31
  v : 0 ≤ X.v ∧ X.v ≤ 18446744073709551615
theorem word_call (v : Int) (h0 : 0 ≤ v) (h1 : v ≤ 18446744073709551615) (w : World) : Calls Tryd.prog 45 #[.int .u64 v] w (RetSN (decB v.toNat) w) := by
  obtain ⟨n, rfl⟩ := Int.eq_ofNat_of_zero_le h0
  exact wordPrint_any n (by omega) w
theorem reg_callS (v : Int) (h0 : 0 ≤ v) (h1 : v ≤ 31) (w : World) : Calls Tryd.prog 47 #[.int .i64 v] w (RetSN (regS v) w) := by
  obtain ⟨n, rfl⟩ := Int.eq_ofNat_of_zero_le h0
  exact reg_any n (by omega) w
theorem spell_call (v : Int) (h0 : 0 ≤ v) (h1 : v ≤ 18446744073709551615) (w : World) : Calls Tryd.prog 25 #[.int .u64 v] w (RetSN (⟨#[112]⟩ ++ decB v.toNat) w) := by
  obtain ⟨n, rfl⟩ := Int.eq_ofNat_of_zero_le h0
  exact spell_any n (by omega) w
theorem regS_size (n : Int) : (regS n).size ≤ 21 := by
  have := decB_size n.toNat
  unfold regS
  simp only [ByteArray.size_append]
  show 1 + _ ≤ 21
  omega
theorem bdrew {B : Nat} {w w' : World} (h : Below B w.drew w') : Below B w w' := ⟨h.os, h.tape, h.output, h.size, h.block⟩
set_option maxRecDepth 100000 in
set_option maxHeartbeats 8000000 in
theorem shown_any (X : Ins) (kd : Int) (hk : 1 ≤ kd ∧ kd ≤ 9) (hok : ShowOk X kd) (w : World) : Calls Tryd.prog 28 #[insAgg X, .int .i64 kd] w (RetSN (shownV X kd) w) := by
  have HB : Hid (Below w.heap.size w (w.alloc (.cells (insCells X) 37))) := (Below.refl _ _).alloc (Nat.le_refl _) _
  unfold insCells at HB
  unfold insAgg insCells
  have hds := decB_size X.v.toNat
  have hrb := regS_size X.b
  have HV := Lib.hid (fun w => word_call X.v hok.v.1 hok.v.2 w)
  have HS := Lib.hid (fun w => spell_call X.v hok.v.1 hok.v.2 w)
  have HOK := Lib.hid hok
  have hcs : kd = 1 ∨ kd = 2 ∨ kd = 3 ∨ kd = 4 ∨ kd = 5 ∨ kd = 6 ∨ kd = 7 ∨ kd = 8 ∨ kd = 9 := by omega
  clear hok hk
  rcases hcs with rfl | rfl | rfl | rfl | rfl | rfl | rfl | rfl | rfl
  · have HR := Lib.hid (fun w => reg_callS X.a (HOK.out.a rfl).1 (HOK.out.a rfl).2 w)
    go_enter Tryd.func28, Tryd.ntmps28
    go_wp2_with fail
    refine (HR.out _).mono ?_
    rintro e w' ⟨rfl, hb⟩
    have HB2 := Lib.hid (HB.out.trans (hb.mono HB.out.size))
    clear hb
    go_wp2
    go_ret
    exact RetSN.mk rfl HB2.out
  · have HR := Lib.hid (fun w => reg_callS X.b (HOK.out.b (Or.inl rfl)).1 (HOK.out.b (Or.inl rfl)).2 w)
    go_enter Tryd.func28, Tryd.ntmps28
    go_wp2_with fail
    refine (HR.out _).mono ?_
    rintro e w' ⟨rfl, hb⟩
    have HB2 := Lib.hid (HB.out.trans (hb.mono HB.out.size))
    clear hb
    go_wp2
    go_ret
    exact RetSN.mk rfl HB2.out
  · have HR := Lib.hid (fun w => reg_callS X.c (HOK.out.c (Or.inl rfl)).1 (HOK.out.c (Or.inl rfl)).2 w)
    go_enter Tryd.func28, Tryd.ntmps28
    go_wp2_with fail
    refine (HR.out _).mono ?_
    rintro e w' ⟨rfl, hb⟩
    have HB2 := Lib.hid (HB.out.trans (hb.mono HB.out.size))
    clear hb
    go_wp2
    go_ret
    exact RetSN.mk rfl HB2.out
  · by_cases h : X.c = -1
    · have hb1 : (X.c == -1) = true := by rw [beq_iff_eq]; exact h
      have HE : Hid (shownV X 4 = decB X.v.toNat) := by show _ = _; unfold shownV; simp [h]
      clear h
      go_enter Tryd.func28, Tryd.ntmps28
      go_wp2_with fail
      refine (HV.out _).mono ?_
      rintro e w' ⟨rfl, hb⟩
      have HB2 := Lib.hid (HB.out.trans (hb.mono HB.out.size))
      clear hb
      go_wp2
      go_ret
      exact RetSN.mk HE.out HB2.out
    · have hb1 : (X.c == -1) = false := by rw [beq_eq_false_iff_ne]; exact h
      have HR := Lib.hid (fun w => reg_callS X.c (HOK.out.c (Or.inr ⟨rfl, h⟩)).1 (HOK.out.c (Or.inr ⟨rfl, h⟩)).2 w)
      have HE : Hid (shownV X 4 = regS X.c) := by show _ = _; unfold shownV; simp [h]
      clear h
      go_enter Tryd.func28, Tryd.ntmps28
      go_wp2_with fail
      refine (HR.out _).mono ?_
      rintro e w' ⟨rfl, hb⟩
      have HB2 := Lib.hid (HB.out.trans (hb.mono HB.out.size))
      clear hb
      go_wp2
      go_ret
      exact RetSN.mk HE.out HB2.out
  · by_cases h : X.b = -1
    · have hb1 : (X.b == -1) = true := by rw [beq_iff_eq]; exact h
      have HE : Hid (shownV X 5 = decB X.v.toNat) := by show _ = _; unfold shownV; simp [h]
      clear h
      go_enter Tryd.func28, Tryd.ntmps28
      go_wp2_with fail
      refine (HV.out _).mono ?_
      rintro e w' ⟨rfl, hb⟩
      have HB2 := Lib.hid (HB.out.trans (hb.mono HB.out.size))
      clear hb
      go_wp2
      go_ret
      exact RetSN.mk HE.out HB2.out
    · have hb1 : (X.b == -1) = false := by rw [beq_eq_false_iff_ne]; exact h
      have HR := Lib.hid (fun w => reg_callS X.b (HOK.out.b (Or.inr (Or.inl ⟨rfl, h⟩))).1 (HOK.out.b (Or.inr (Or.inl ⟨rfl, h⟩))).2 w)
      have HE : Hid (shownV X 5 = regS X.b) := by show _ = _; unfold shownV; simp [h]
      clear h
      go_enter Tryd.func28, Tryd.ntmps28
      go_wp2_with fail
      refine (HR.out _).mono ?_
      rintro e w' ⟨rfl, hb⟩
      have HB2 := Lib.hid (HB.out.trans (hb.mono HB.out.size))
      clear hb
      go_wp2
      go_ret
      exact RetSN.mk HE.out HB2.out
  · by_cases h : X.b = -1
    · have hb1 : (X.b == -1) = true := by rw [beq_iff_eq]; exact h
      have HE : Hid (shownV X 6 = ⟨#[91]⟩ ++ decB X.v.toNat ++ ⟨#[93]⟩) := by show _ = _; unfold shownV; simp [h]
      clear h
      go_enter Tryd.func28, Tryd.ntmps28
      go_wp2_with fail
      refine (HV.out _).mono ?_
      rintro e w' ⟨rfl, hb⟩
      have HB2 := Lib.hid (HB.out.trans (hb.mono HB.out.size))
      clear hb
      go_wp2
      go_ret
      exact RetSN.mk HE.out HB2.out
    · have hb1 : (X.b == -1) = false := by rw [beq_eq_false_iff_ne]; exact h
      have HR := Lib.hid (fun w => reg_callS X.b (HOK.out.b (Or.inr (Or.inr ⟨rfl, h⟩))).1 (HOK.out.b (Or.inr (Or.inr ⟨rfl, h⟩))).2 w)
      by_cases hv : X.v = 0
      · have hb2 : (X.v == 0) = true := by rw [beq_iff_eq]; exact hv
        have HE : Hid (shownV X 6 = ⟨#[91]⟩ ++ regS X.b ++ ⟨#[93]⟩) := by show _ = _; unfold shownV; simp [h, hv]
        clear h hv
        go_enter Tryd.func28, Tryd.ntmps28
        go_wp2_with fail
        refine (HR.out _).mono ?_
        rintro e w' ⟨rfl, hb⟩
        have HB2 := Lib.hid (HB.out.trans (hb.mono HB.out.size))
        clear hb
        go_wp2
        go_ret
        exact RetSN.mk HE.out HB2.out
      · have hb2 : (X.v == 0) = false := by rw [beq_eq_false_iff_ne]; exact hv
        have HE : Hid (shownV X 6 = ⟨#[91]⟩ ++ regS X.b ++ ⟨#[43]⟩ ++ decB X.v.toNat ++ ⟨#[93]⟩) := by show _ = _; unfold shownV; simp [h, hv]
        clear h hv
        have hc1 := fun W => run_string_add_sum (P := Tryd.prog) (w := W) ⟨#[91]⟩ (regS X.b) (by show 1 + _ ≤ _; omega)
        have hc2 := fun W => run_string_add_sum (P := Tryd.prog) (w := W) (⟨#[91]⟩ ++ regS X.b) ⟨#[43]⟩ (by rw [ByteArray.size_append]; show 1 + _ + 1 ≤ _; omega)
        have hc3 := fun W => run_string_add_sum (P := Tryd.prog) (w := W) (⟨#[91]⟩ ++ regS X.b ++ ⟨#[43]⟩) (decB X.v.toNat) (by rw [ByteArray.size_append, ByteArray.size_append]; show 1 + _ + 1 + _ ≤ _; omega)
        have hc4 := fun W => run_string_add_sum (P := Tryd.prog) (w := W) (⟨#[91]⟩ ++ regS X.b ++ ⟨#[43]⟩ ++ decB X.v.toNat) ⟨#[93]⟩ (by rw [ByteArray.size_append, ByteArray.size_append, ByteArray.size_append]; show 1 + _ + 1 + _ + 1 ≤ _; omega)
        go_enter Tryd.func28, Tryd.ntmps28
        go_wp2_with fail
        obtain ⟨W1, hW1⟩ : ∃ W1, w.alloc (.cells #[.int .i64 X.op, .int .i64 X.a, .int .i64 X.b, .int .i64 X.c, .int .u64 X.v, .int .i64 X.m, .int .i64 X.wh] 37) = W1 := ⟨_, rfl⟩
        have hx : W1.heap[w.heap.size]? = some (.cells #[.int .i64 X.op, .int .i64 X.a, .int .i64 X.b, .int .i64 X.c, .int .u64 X.v, .int .i64 X.m, .int .i64 X.wh] 37 (0, 0)) := by rw [← hW1]; exact heap_alloc_new w _
        have a2 : W1.cell? ⟨w.heap.size, 2, none⟩ = some (.int .i64 X.b) := rowCell0 hx
        have a4 : W1.cell? ⟨w.heap.size, 4, none⟩ = some (.int .u64 X.v) := rowCell0 hx
        have hlt : w.heap.size < W1.heap.size := (Array.getElem?_eq_some_iff.1 hx).1
        have HB1 : Hid (Below w.heap.size w W1) := by show Below _ _ _; rw [← hW1]; exact HB.out
        rw [hW1]
        clear hW1 hx
        go_region_held3 (fun w' => w'.cell? ⟨w.heap.size, 2, none⟩ = some (.int .i64 X.b) ∧ w'.cell? ⟨w.heap.size, 4, none⟩ = some (.int .u64 X.v))
          (first | exact ⟨a2, a4⟩ | exact ⟨(below_cellP hb2 hlt).trans a2, (below_cellP hb2 hlt).trans a4⟩ | exact ⟨(below_cellP hb3 (Nat.lt_of_lt_of_le hlt hb2.size)).trans ((below_cellP hb2 hlt).trans a2), (below_cellP hb3 (Nat.lt_of_lt_of_le hlt hb2.size)).trans ((below_cellP hb2 hlt).trans a4)⟩)
          (first | (go_at_call 47; refine (HR.out _).mono ?_; rintro e w2 ⟨rfl, hb2⟩) | (go_at_call 45; refine (HV.out _).mono ?_; rintro e w3 ⟨rfl, hb3⟩))
        have HB5 : Hid (Below w.heap.size w w3) := by
          have h1 := bdrew hb2
          exact (HB1.out.trans (h1.mono (by show _ ≤ W1.heap.size; omega))).trans (hb3.mono (by have := h1.size; omega))
        clear hb2 hb3 hc1 hc2 hc3 hc4
        go_wp2
        go_ret
        exact RetSN.mk HE.out HB5.out
  · go_enter Tryd.func28, Tryd.ntmps28
    go_wp2_with fail
    refine (HV.out _).mono ?_
    rintro e w' ⟨rfl, hb⟩
    have HB2 := Lib.hid (HB.out.trans (hb.mono HB.out.size))
    clear hb
    go_wp2
    go_ret
    exact RetSN.mk rfl HB2.out
  · go_enter Tryd.func28, Tryd.ntmps28
    go_wp2_with fail
    refine (HS.out _).mono ?_
    rintro e w' ⟨rfl, hb⟩
    have HB2 := Lib.hid (HB.out.trans (hb.mono HB.out.size))
    clear hb
    go_wp2
    go_ret
    exact RetSN.mk rfl HB2.out
  · go_enter Tryd.func28, Tryd.ntmps28
    go_wp2_with fail
    refine (HV.out _).mono ?_
    rintro e w' ⟨rfl, hb⟩
    have HB2 := Lib.hid (HB.out.trans (hb.mono HB.out.size))
    clear hb
    go_wp2
    go_ret
    exact RetSN.mk rfl HB2.out
/-- How a mark is written. -/
def whenS (wh : Int) : ByteArray := if wh = 1 then ⟨#[61, 48]⟩ else if wh = 2 then ⟨#[62, 48]⟩ else ⟨#[]⟩
theorem whenS_0 : whenS 0 = ⟨#[]⟩ := rfl
theorem whenS_1 : whenS 1 = ⟨#[61, 48]⟩ := rfl
theorem whenS_2 : whenS 2 = ⟨#[62, 48]⟩ := rfl
def markedV (X : Ins) : ByteArray := if X.m = 0 then ⟨#[]⟩ else ⟨#[32, 33]⟩ ++ decB X.m.toNat ++ whenS X.wh
set_option maxRecDepth 100000 in
set_option maxHeartbeats 8000000 in
theorem marked_any (X : Ins) (hm : 0 ≤ X.m ∧ X.m ≤ 99) (hw : 0 ≤ X.wh ∧ X.wh ≤ 2) (w : World) : Calls Tryd.prog 29 #[insAgg X] w (RetSN (markedV X) w) := by
  have HB : Hid (Below w.heap.size w (w.alloc (.cells (insCells X) 37))) := (Below.refl _ _).alloc (Nat.le_refl _) _
  unfold insCells at HB
  unfold insAgg insCells
  have hds := decB_size X.m.toNat
  have hw0 := hw.1
  have hw1 := hw.2
  have hm0 := hm.1
  have hm1 := hm.2
  clear hw hm
  by_cases h0 : X.m = 0
  · have hb : (X.m == 0) = true := by rw [beq_iff_eq]; exact h0
    have HE : Hid (markedV X = ⟨#[]⟩) := by show _ = _; unfold markedV; rw [if_pos h0]
    clear h0
    go_enter Tryd.func29, Tryd.ntmps29
    go_wp2
    go_ret
    exact RetSN.mk HE.out HB.out
  · have hb : (X.m == 0) = false := by rw [beq_eq_false_iff_ne]; exact h0
    have HV := Lib.hid (fun w => word_call X.m hm0 (by omega) w)
    have HE : Hid (∀ t, whenS X.wh = t → markedV X = ⟨#[32, 33]⟩ ++ decB X.m.toNat ++ t) := by intro t h; subst h; unfold markedV; rw [if_neg h0]
    have hcs : X.wh = 0 ∨ X.wh = 1 ∨ X.wh = 2 := by omega
    clear h0
    rcases hcs with h | h | h
    all_goals
      have HWH : Hid (X.wh = _) := h
      clear h
    · have b1 : (X.wh == 1) = false := by rw [beq_eq_false_iff_ne, HWH.out]; decide
      have b2 : (X.wh == 2) = false := by rw [beq_eq_false_iff_ne, HWH.out]; decide
      have HE2 : Hid (markedV X = ⟨#[32, 33]⟩ ++ decB X.m.toNat) := by
        show _ = _
        rw [HE.out _ ((congrArg whenS HWH.out).trans whenS_0)]
        apply ByteArray.ext; simp
      go_enter Tryd.func29, Tryd.ntmps29
      go_wp2_with fail
      refine (HV.out _).mono ?_
      rintro e w' ⟨rfl, hb⟩
      have HB2 := Lib.hid (HB.out.trans (hb.mono HB.out.size))
      have a6 : w'.cell? ⟨w.heap.size, 6, none⟩ = some (.int .i64 X.wh) := (below_cellP hb (by simp)).trans (by simp)
      have hlt : w.heap.size < w'.heap.size := by have := hb.size; simp at this; omega
      clear hb
      go_wp2
      go_ret
      exact RetSN.mk HE2.out HB2.out
    · have b1 : (X.wh == 1) = true := by rw [beq_iff_eq, HWH.out]
      have HE2 := Lib.hid (HE.out _ ((congrArg whenS HWH.out).trans whenS_1))
      go_enter Tryd.func29, Tryd.ntmps29
      go_wp2_with fail
      refine (HV.out _).mono ?_
      rintro e w' ⟨rfl, hb⟩
      have HB2 := Lib.hid (HB.out.trans (hb.mono HB.out.size))
      have a6 : w'.cell? ⟨w.heap.size, 6, none⟩ = some (.int .i64 X.wh) := (below_cellP hb (by simp)).trans (by simp)
      have hlt : w.heap.size < w'.heap.size := by have := hb.size; simp at this; omega
      clear hb
      go_wp2
      go_ret
      exact RetSN.mk HE2.out HB2.out
    · have b1 : (X.wh == 1) = false := by rw [beq_eq_false_iff_ne, HWH.out]; decide
      have b2 : (X.wh == 2) = true := by rw [beq_iff_eq, HWH.out]
      have HE2 := Lib.hid (HE.out _ ((congrArg whenS HWH.out).trans whenS_2))
      go_enter Tryd.func29, Tryd.ntmps29
      go_wp2_with fail
      refine (HV.out _).mono ?_
      rintro e w' ⟨rfl, hb⟩
      have HB2 := Lib.hid (HB.out.trans (hb.mono HB.out.size))
      have a6 : w'.cell? ⟨w.heap.size, 6, none⟩ = some (.int .i64 X.wh) := (below_cellP hb (by simp)).trans (by simp)
      have hlt : w.heap.size < w'.heap.size := by have := hb.size; simp at this; omega
      clear hb
      go_wp2
      go_ret
      exact RetSN.mk HE2.out HB2.out
end Go.Proofs.YtnoejikcdigceaaDoor
