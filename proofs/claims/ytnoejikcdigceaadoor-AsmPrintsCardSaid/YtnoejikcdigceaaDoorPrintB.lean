/- code.register, code.number, code.may, code.Check: contracts. -/
import Derived.Test.YtnoejikcdigceaaDoorFields
import Derived.Test.YtnoejikcdigceaaDoorMark
import Derived.Deep.DeepCutAuto
set_option linter.unusedVariables false
set_option linter.unusedSimpArgs false
namespace Go.Proofs.YtnoejikcdigceaaDoor
open Go.RowKit
/-- Whether a field that is used, or not, may be so. -/
def regOk (n : Int) (used less : Bool) : Bool := if used then decide (0 ≤ n ∧ n < 32) || (less && decide (n = -1)) else decide (n = 0)
set_option maxRecDepth 100000 in
set_option maxHeartbeats 4000000 in
theorem creg_any (n : Int) (used less : Bool) (w : World) : Calls Tryd.prog 74 #[.int .i64 n, .bool used, .bool less] w (RetB (regOk n used less) w) := by
  have hcs : (0 ≤ n ∧ n < 32) ∨ (0 ≤ n ∧ ¬ n < 32) ∨ (¬ 0 ≤ n ∧ n ≠ -1) ∨ (¬ 0 ≤ n ∧ n = -1) := by omega
  cases used
  · by_cases h0 : n = 0
    · subst h0
      go_enter Tryd.func74, Tryd.ntmps74
      go_wp2
      go_ret
      exact RetB.mk rfl
    · have hb : (n == 0) = false := by rw [beq_eq_false_iff_ne]; exact h0
      have HE : Hid (regOk n false less = false) := by show _ = _; unfold regOk; simp [h0]
      clear h0
      go_enter Tryd.func74, Tryd.ntmps74
      go_wp2
      go_ret
      exact RetB.mk HE.out
  · rcases hcs with ⟨a, b⟩ | ⟨a, b⟩ | ⟨a, b⟩ | ⟨a, b⟩
    · have HE : Hid (regOk n true less = true) := by show _ = _; unfold regOk; simp [a, b]
      go_enter Tryd.func74, Tryd.ntmps74
      go_wp2
      go_ret
      exact RetB.mk HE.out
    · have HE : Hid (regOk n true less = false) := by show _ = _; unfold regOk; simp [b]; omega
      have hb : (n == -1) = false := by rw [beq_eq_false_iff_ne]; omega
      cases less
      all_goals
        go_enter Tryd.func74, Tryd.ntmps74
        go_wp2
        go_ret
        exact RetB.mk HE.out
    · have HE : Hid (regOk n true less = false) := by show _ = _; unfold regOk; simp [a, b]
      have hb : (n == -1) = false := by rw [beq_eq_false_iff_ne]; exact b
      clear b
      cases less
      all_goals
        go_enter Tryd.func74, Tryd.ntmps74
        go_wp2
        go_ret
        exact RetB.mk HE.out
    · subst b
      cases less
      all_goals
        go_enter Tryd.func74, Tryd.ntmps74
        go_wp2
        go_ret
        exact RetB.mk rfl
/-- Whether V may be so, in a code of n. -/
def numOk (X : Ins) (used : Bool) (n : Int) : Bool :=
  if X.op = 12 ∨ X.op = 13 ∨ X.op = 14 ∨ X.op = 15 then decide (X.v < n)
  else if X.op = 22 then decide (X.v < 1000)
  else if X.op = 3 ∨ X.op = 4 ∨ X.op = 5 ∨ X.op = 6 ∨ X.op = 7 ∨ X.op = 8 ∨ X.op = 9 ∨ X.op = 10 ∨ X.op = 11 then decide (X.c = -1) || decide (X.v = 0)
  else if X.op = 43 then decide (X.b = -1) || decide (X.v = 0)
  else used || decide (X.v = 0)
def insAgg (X : Ins) : Value := .agg (insCells X)
/-- It answers so, in new memory. -/
def RetN (b : Bool) (w : World) (e : Ending) (w' : World) : Prop := e = .returned (.bool b) ∧ Below w.heap.size w w'
theorem RetN.mk {b c : Bool} {w w' : World} (h : b = c) (hb : Below w.heap.size w w') : RetN b w (.returned (.bool c)) w' := ⟨by rw [h], hb⟩
set_option maxRecDepth 100000 in
set_option maxHeartbeats 4000000 in
theorem cnum_any (X : Ins) (used : Bool) (n : Nat) (hn : n ≤ 1000000) (w : World) : Calls Tryd.prog 75 #[insAgg X, .bool used, .int .i64 n] w (RetN (numOk X used n) w) := by
  unfold insAgg insCells
  go_enter Tryd.func75, Tryd.ntmps75
  go_wp2
  all_goals
    go_ret
    refine RetN.mk ?_ ((Below.refl _ _).alloc (Nat.le_refl _) _)
    simp only [beq_iff_eq, beq_eq_false_iff_ne, ne_eq] at *
    unfold numOk
    repeat first
      | rfl
      | rw [if_pos (by omega)]
      | rw [if_neg (by omega)]
    try first
      | (simp [*]; done)
      | (cases used
         · rfl
         · simp at *)
theorem below_cellP {B g i : Nat} {w w' : World} (h : Below B w w') (hg : g < B) : w'.cell? ⟨g, i, none⟩ = w.cell? ⟨g, i, none⟩ := by
  unfold World.cell?
  simp only [h.block g hg]
def lessB (op : Int) : Bool := decide (op = 17 ∨ op = 18 ∨ op = 19 ∨ op = 20 ∨ op = 21 ∨ op = 31 ∨ op = 32 ∨ op = 43)
def lessC (op : Int) : Bool := decide (op = 3 ∨ op = 4 ∨ op = 5 ∨ op = 6 ∨ op = 7 ∨ op = 8 ∨ op = 9 ∨ op = 10 ∨ op = 11)
def opMay (X : Ins) (lib : Bool) : Bool := decide (1 ≤ X.op ∧ X.op ≤ 58) && (if lib then decide (X.op ≠ 22) else decide (X.op ≤ 22 ∧ X.m = 0))
def fldMay (X : Ins) (n : Int) : Bool := regOk X.a (fieldsV X.op).1 false && regOk X.b (fieldsV X.op).2.1 (lessB X.op) && regOk X.c (fieldsV X.op).2.2.1 (lessC X.op) && numOk X (fieldsV X.op).2.2.2 n
def mrkMay (X : Ins) : Bool := decide (0 ≤ X.m ∧ X.m ≤ 99 ∧ 0 ≤ X.wh ∧ X.wh ≤ 2) && (decide (X.wh = 0) || (decide (0 < X.m) && (fieldsV X.op).1))
/-- Whether an instruction may be, in a code of n. -/
def mayV (X : Ins) (n : Int) (lib : Bool) : Bool := opMay X lib && fldMay X n && mrkMay X
set_option maxRecDepth 100000 in
set_option maxHeartbeats 4000000 in
theorem may_bad (X : Ins) (n : Nat) (lib : Bool) (w : World) (h : opMay X lib = false) : Calls Tryd.prog 65 #[insAgg X, .int .i64 n, .bool lib] w (RetN (mayV X n lib) w) := by
  have HV : Hid (mayV X n lib = false) := by show _ = _; unfold mayV; rw [h]; rfl
  unfold insAgg insCells
  unfold opMay at h
  have hcs : X.op < 1 ∨ (¬ X.op < 1 ∧ 58 < X.op) ∨ (¬ X.op < 1 ∧ ¬ 58 < X.op ∧ lib = true ∧ X.op = 22) ∨ (¬ X.op < 1 ∧ ¬ 58 < X.op ∧ lib = false ∧ 22 < X.op) ∨ (¬ X.op < 1 ∧ ¬ 58 < X.op ∧ lib = false ∧ ¬ 22 < X.op ∧ X.m ≠ 0) := by
    by_cases k1 : X.op < 1
    · exact Or.inl k1
    by_cases k2 : 58 < X.op
    · exact Or.inr (Or.inl ⟨k1, k2⟩)
    have k3 : decide (1 ≤ X.op ∧ X.op ≤ 58) = true := decide_eq_true (by omega)
    rw [k3, Bool.true_and] at h
    cases lib
    · have h3 := of_decide_eq_false (show decide (X.op ≤ 22 ∧ X.m = 0) = false from h)
      by_cases k4 : 22 < X.op
      · exact Or.inr (Or.inr (Or.inr (Or.inl ⟨k1, k2, rfl, k4⟩)))
      · exact Or.inr (Or.inr (Or.inr (Or.inr ⟨k1, k2, rfl, k4, fun e => h3 ⟨by omega, e⟩⟩)))
    · have h3 := of_decide_eq_false (show decide (X.op ≠ 22) = false from h)
      exact Or.inr (Or.inr (Or.inl ⟨k1, k2, rfl, by omega⟩))
  clear h
  rcases hcs with a | ⟨a, b⟩ | ⟨a, b, rfl, c⟩ | ⟨a, b, rfl, c⟩ | ⟨a, b, rfl, c, d⟩
  · go_enter Tryd.func65, Tryd.ntmps65
    go_wp2
    go_ret
    exact RetN.mk HV.out ((Below.refl _ _).alloc (Nat.le_refl _) _)
  · go_enter Tryd.func65, Tryd.ntmps65
    go_wp2
    go_ret
    exact RetN.mk HV.out ((Below.refl _ _).alloc (Nat.le_refl _) _)
  · have c1 : (X.op == 22) = true := by rw [beq_iff_eq]; exact c
    clear c
    go_enter Tryd.func65, Tryd.ntmps65
    go_wp2
    go_ret
    exact RetN.mk HV.out ((Below.refl _ _).alloc (Nat.le_refl _) _)
  · go_enter Tryd.func65, Tryd.ntmps65
    go_wp2
    go_ret
    exact RetN.mk HV.out ((Below.refl _ _).alloc (Nat.le_refl _) _)
  · have c1 : (X.m != 0) = true := by rw [bne_iff_ne]; exact d
    clear d
    go_enter Tryd.func65, Tryd.ntmps65
    go_wp2
    go_ret
    exact RetN.mk HV.out ((Below.refl _ _).alloc (Nat.le_refl _) _)
def LessIs (X : Ins) (b c : Value) : Prop := b = .bool (lessB X.op) ∧ c = .bool (lessC X.op)
set_option maxRecDepth 100000 in
set_option maxHeartbeats 8000000 in
theorem may_good (X : Ins) (n : Nat) (hn : n ≤ 1000000) (lib : Bool) (w : World) (h : opMay X lib = true) : Calls Tryd.prog 65 #[insAgg X, .int .i64 n, .bool lib] w (RetN (mayV X n lib) w) := by
  have HV : Hid (mayV X n lib = (fldMay X n && mrkMay X)) := by show _ = _; unfold mayV; rw [h]; rfl
  have HA : Hid (insAgg X = .agg (insCells X)) := rfl
  unfold insAgg insCells
  unfold opMay at h
  rw [Bool.and_eq_true, decide_eq_true_eq] at h
  obtain ⟨⟨a, b⟩, c⟩ := h
  have a' : ¬ X.op < 1 := by omega
  have b' : ¬ 58 < X.op := by omega
  have hcs : (lib = true ∧ (X.op == 22) = false) ∨ (lib = false ∧ ¬ 22 < X.op ∧ (X.m != 0) = false) := by
    cases lib
    · right
      have c2 := of_decide_eq_true (show decide (X.op ≤ 22 ∧ X.m = 0) = true from c)
      exact ⟨rfl, by omega, by rw [bne_eq_false_iff_eq]; exact c2.2⟩
    · left
      have c2 := of_decide_eq_true (show decide (X.op ≠ 22) = true from c)
      exact ⟨rfl, by rw [beq_eq_false_iff_ne]; exact c2⟩
  clear c
  obtain ⟨fa, fb, fc, fv, hF⟩ : ∃ fa fb fc fv, fieldsV X.op = (fa, fb, fc, fv) := ⟨_, _, _, _, rfl⟩
  have HF := Lib.hid hF
  clear hF
  obtain ⟨r1, hr1⟩ : ∃ r1, regOk X.a fa false = r1 := ⟨_, rfl⟩
  obtain ⟨r2, hr2⟩ : ∃ r2, regOk X.b fb (lessB X.op) = r2 := ⟨_, rfl⟩
  obtain ⟨r3, hr3⟩ : ∃ r3, regOk X.c fc (lessC X.op) = r3 := ⟨_, rfl⟩
  obtain ⟨r4, hr4⟩ : ∃ r4, numOk X fv n = r4 := ⟨_, rfl⟩
  have HR1 : Hid (∀ w, Calls Tryd.prog 74 #[.int .i64 X.a, .bool fa, .bool false] w (RetB r1 w)) := fun w => hr1 ▸ creg_any X.a fa false w
  have HR2 : Hid (∀ w, Calls Tryd.prog 74 #[.int .i64 X.b, .bool fb, .bool (lessB X.op)] w (RetB r2 w)) := fun w => hr2 ▸ creg_any X.b fb _ w
  have HR3 : Hid (∀ w, Calls Tryd.prog 74 #[.int .i64 X.c, .bool fc, .bool (lessC X.op)] w (RetB r3 w)) := fun w => hr3 ▸ creg_any X.c fc _ w
  have HR4 : Hid (∀ w, Calls Tryd.prog 75 #[.agg (insCells X), .bool fv, .int .i64 n] w (RetN r4 w)) := fun w => hr4 ▸ cnum_any X fv n hn w
  have HV2 : Hid (mayV X n lib = (r1 && r2 && r3 && r4 && mrkMay X)) := by
    show _ = _; rw [HV.out]; unfold fldMay; rw [HF.out]; dsimp only; rw [hr1, hr2, hr3, hr4]
  clear hr1 hr2 hr3 hr4 HV
  have hmk : (¬ 0 ≤ X.m ∧ mrkMay X = false) ∨ (0 ≤ X.m ∧ ¬ X.m ≤ 99 ∧ mrkMay X = false) ∨ (0 ≤ X.m ∧ X.m ≤ 99 ∧ ¬ 0 ≤ X.wh ∧ mrkMay X = false) ∨ (0 ≤ X.m ∧ X.m ≤ 99 ∧ 0 ≤ X.wh ∧ ¬ X.wh ≤ 2 ∧ mrkMay X = false) ∨
      (0 ≤ X.m ∧ X.m ≤ 99 ∧ 0 ≤ X.wh ∧ X.wh ≤ 2 ∧ (X.wh == 0) = true ∧ mrkMay X = true) ∨ (0 ≤ X.m ∧ X.m ≤ 99 ∧ 0 ≤ X.wh ∧ X.wh ≤ 2 ∧ (X.wh == 0) = false ∧ ¬ 0 < X.m ∧ mrkMay X = false) ∨ (0 ≤ X.m ∧ X.m ≤ 99 ∧ 0 ≤ X.wh ∧ X.wh ≤ 2 ∧ (X.wh == 0) = false ∧ 0 < X.m ∧ mrkMay X = fa) := by
    have e : mrkMay X = (decide (0 ≤ X.m ∧ X.m ≤ 99 ∧ 0 ≤ X.wh ∧ X.wh ≤ 2) && (decide (X.wh = 0) || (decide (0 < X.m) && fa))) := by unfold mrkMay; rw [HF.out]
    rw [e]
    by_cases k1 : 0 ≤ X.m
    · by_cases k2 : X.m ≤ 99
      · by_cases k3 : 0 ≤ X.wh
        · by_cases k4 : X.wh ≤ 2
          · by_cases k5 : X.wh = 0
            · right; right; right; right; left; exact ⟨k1, k2, k3, k4, by rw [beq_iff_eq]; exact k5, by simp [k1, k2, k5]⟩
            · by_cases k6 : 0 < X.m
              · right; right; right; right; right; right; exact ⟨k1, k2, k3, k4, by rw [beq_eq_false_iff_ne]; exact k5, k6, by simp [k1, k2, k3, k4, k5, k6]⟩
              · right; right; right; right; right; left; exact ⟨k1, k2, k3, k4, by rw [beq_eq_false_iff_ne]; exact k5, k6, by simp [k5, k6]⟩
          · right; right; right; left; exact ⟨k1, k2, k3, k4, by simp [k4]⟩
        · right; right; left; exact ⟨k1, k2, k3, by simp [k3]⟩
      · right; left; exact ⟨k1, k2, by simp [k2]⟩
    · left; exact ⟨k1, by simp [k1]⟩
  have HMK := Lib.hid hmk
  clear hmk
  rcases hcs with ⟨rfl, c⟩ | ⟨rfl, c, d⟩
  all_goals
    go_enter Tryd.func65, Tryd.ntmps65
    go_upto_block 0 with (go_at_call 46; refine (fields_any _ _).mono ?_; rintro e w' ⟨rfl, rfl⟩; rw [HF.out])
    go_cut [11, 12] (fun b c wz => LessIs X b c ∧ wz = w.alloc (.cells #[.int .i64 X.op, .int .i64 X.a, .int .i64 X.b, .int .i64 X.c, .int .u64 X.v, .int .i64 X.m, .int .i64 X.wh] 37))
    case first =>
      go_wp2
      all_goals
        go_meet
        refine ⟨⟨?_, ?_⟩, rfl⟩
        · simp only [beq_iff_eq, beq_eq_false_iff_ne, ne_eq] at *
          unfold lessB
          first | rw [decide_eq_true (by omega)] | rw [decide_eq_false (by omega)]
        · simp only [beq_iff_eq, beq_eq_false_iff_ne, ne_eq] at *
          unfold lessC
          first | rw [decide_eq_true (by omega)] | rw [decide_eq_false (by omega)]
    case rest =>
      obtain ⟨⟨rfl, rfl⟩, rfl⟩ := hcut
      have HBL : Hid (Below w.heap.size w (w.alloc (.cells #[.int .i64 X.op, .int .i64 X.a, .int .i64 X.b, .int .i64 X.c, .int .u64 X.v, .int .i64 X.m, .int .i64 X.wh] 37))) := (Below.refl _ _).alloc (Nat.le_refl _) _
      go_wp2_with fail
      refine (HR1.out _).mono ?_
      rintro e w' ⟨rfl, rfl⟩
      cases r1
      · go_wp2
        go_ret
        exact RetN.mk (by rw [HV2.out]; rfl) HBL.out
      go_wp2_with fail
      refine (HR2.out _).mono ?_
      rintro e w' ⟨rfl, rfl⟩
      cases r2
      · go_wp2
        go_ret
        exact RetN.mk (by rw [HV2.out]; rfl) HBL.out
      go_wp2_with fail
      refine (HR3.out _).mono ?_
      rintro e w' ⟨rfl, rfl⟩
      cases r3
      · go_wp2
        go_ret
        exact RetN.mk (by rw [HV2.out]; rfl) HBL.out
      go_wp2_with fail
      refine (HR4.out _).mono ?_
      rintro e w2 ⟨rfl, hb2⟩
      have HB2 : Hid (Below w.heap.size w w2) := HBL.out.trans (hb2.mono HBL.out.size)
      have e5 : w2.cell? ⟨w.heap.size, 5, none⟩ = some (.int .i64 X.m) := (below_cellP hb2 (by simp)).trans (by simp)
      have e6 : w2.cell? ⟨w.heap.size, 6, none⟩ = some (.int .i64 X.wh) := (below_cellP hb2 (by simp)).trans (by simp)
      have hlt2 : w.heap.size < w2.heap.size := by have := hb2.size; simp at this; omega
      clear hb2
      cases r4
      · go_wp2
        go_ret
        exact RetN.mk (by rw [HV2.out]; rfl) HB2.out
      rcases HMK.out with ⟨k1, k⟩ | ⟨k1, k2, k⟩ | ⟨k1, k2, k3, k⟩ | ⟨k1, k2, k3, k4, k⟩ | ⟨k1, k2, k3, k4, k5, k⟩ | ⟨k1, k2, k3, k4, k5, k6, k⟩ | ⟨k1, k2, k3, k4, k5, k6, k⟩
      all_goals
        have HVK := Lib.hid k
        clear k
      · go_wp2
        go_ret
        exact RetN.mk (by rw [HV2.out, HVK.out]; rfl) HB2.out
      · go_wp2
        go_ret
        exact RetN.mk (by rw [HV2.out, HVK.out]; rfl) HB2.out
      · go_wp2
        go_ret
        exact RetN.mk (by rw [HV2.out, HVK.out]; rfl) HB2.out
      · go_wp2
        go_ret
        exact RetN.mk (by rw [HV2.out, HVK.out]; rfl) HB2.out
      · go_wp2
        go_ret
        exact RetN.mk (by rw [HV2.out, HVK.out]; rfl) HB2.out
      · go_wp2
        go_ret
        exact RetN.mk (by rw [HV2.out, HVK.out]; rfl) HB2.out
      · go_wp2
        go_ret
        exact RetN.mk (by rw [HV2.out, HVK.out]; rfl) HB2.out
theorem may_any (X : Ins) (n : Nat) (hn : n ≤ 1000000) (lib : Bool) (w : World) : Calls Tryd.prog 65 #[insAgg X, .int .i64 n, .bool lib] w (RetN (mayV X n lib) w) := by
  cases h : opMay X lib
  · exact may_bad X n lib w h
  · exact may_good X n hn lib w h
end Go.Proofs.YtnoejikcdigceaaDoor
