/- distaffref04.Right: contract. -/
import Derived.Test.YtnoejikcdigceaaDoorRefOf
import Derived.Test.YtnoejikcdigceaaDoorGPrint
import Derived.Deep.DeepCutAuto
set_option linter.unusedVariables false
set_option linter.unusedSimpArgs false
namespace Go.Proofs.YtnoejikcdigceaaDoor
open Go.RowKit
def rg (n : Int) : Bool := decide (0 ≤ n) && decide (n < 32)
theorem rreg_any (n : Int) (w : World) : Calls Tryd.prog 48 #[.int .i64 n] w (RetB (rg n) w) := by
  have HE : Hid (rg n = (decide (0 ≤ n) && decide (n < 32))) := rfl
  obtain ⟨r, hr⟩ : ∃ r, rg n = r := ⟨_, rfl⟩
  rw [hr] at HE ⊢
  go_enter Tryd.func48, Tryd.ntmps48
  go_wp2
  all_goals
    go_ret
    refine RetB.mk ?_
    rw [HE.out]
    simp [*]
    try omega
def k1 (X : Ins) (O : Of8) (lib : Bool) : Bool := !O.2.2.2.2.2.2.2 || ((!lib && (decide (22 < X.op) || X.m != 0)) || (lib && X.op == 22))
def k2 (X : Ins) (O : Of8) : Bool := decide (X.m < 0) || decide (99 < X.m) || decide (X.wh < 0) || decide (2 < X.wh) || (X.m == 0 && X.wh != 0) || (X.wh != 0 && !O.1)
def k3 (X : Ins) (O : Of8) : Bool := (O.1 && !rg X.a) || (!O.1 && X.a != 0)
def k4 (X : Ins) (O : Of8) : Bool := (!O.2.1 && X.b != 0) || (O.2.1 && !rg X.b && !(O.2.2.2.2.1 && X.b == -1))
def k5 (X : Ins) (O : Of8) : Bool := (!O.2.2.1 && X.c != 0) || (O.2.2.1 && !rg X.c && !(O.2.2.2.2.2.1 && X.c == -1))
def v1 (X : Ins) (O : Of8) : Bool := if X.op == 43 && X.b != -1 then false else O.2.2.2.1
def v2 (X : Ins) (O : Of8) (v : Bool) : Bool := if O.2.2.2.2.2.1 && X.c != -1 then false else v
def k6 (X : Ins) (O : Of8) (v : Bool) (n : Int) : Bool := (!v && X.v != 0) || (O.2.2.2.2.2.2.1 && decide (n ≤ X.v)) || (X.op == 22 && decide (1000 ≤ X.v))
def rightO (X : Ins) (O : Of8) (n : Int) (lib : Bool) : Bool := !(k1 X O lib || k2 X O || k3 X O || k4 X O || k5 X O || k6 X O (v2 X O (v1 X O)) n)
def rightV (X : Ins) (n : Int) (lib : Bool) : Bool := rightO X (ofV X.op) n lib
def ofCells (O : Of8) : Array Value := #[.bool O.1, .bool O.2.1, .bool O.2.2.1, .bool O.2.2.2.1, .bool O.2.2.2.2.1, .bool O.2.2.2.2.2.1, .bool O.2.2.2.2.2.2.1, .bool O.2.2.2.2.2.2.2]
set_option maxRecDepth 100000 in
set_option maxHeartbeats 4000000 in
theorem right_any (X : Ins) (n : Nat) (hn : n ≤ 1000000) (lib : Bool) (w : World) : Calls Tryd.prog 30 #[insAgg X, .int .i64 n, .bool lib] w (RetN (rightV X n lib) w) := by
  have HR : Hid (rightV X n lib = rightO X (ofV X.op) n lib) := rfl
  have HO := Lib.hid (fun w => of_any X.op w)
  obtain ⟨r, hr⟩ : ∃ r, rightV X n lib = r := ⟨_, rfl⟩
  obtain ⟨O, hO⟩ : ∃ O, ofV X.op = O := ⟨_, rfl⟩
  rw [hr, hO] at HR
  rw [hr]
  rw [hO] at HO
  clear hO hr
  obtain ⟨oA, oB, oC, oV, nB, nC, oP, oI⟩ := O
  obtain ⟨lb, hlb⟩ : ∃ b, lib = b := ⟨_, rfl⟩
  rw [hlb] at HR ⊢
  clear hlb
  unfold insAgg insCells
  go_enter Tryd.func30, Tryd.ntmps30
  go_wp2_with fail
  refine (HO.out _).mono ?_
  rintro e w1 ⟨rfl, hb⟩
  have HB := Lib.hid (((Below.refl w.heap.size w).alloc (Nat.le_refl _) (.cells (insCells X) 37)).trans (hb.mono (by simp)))
  unfold of8
  have f0 : w1.cell? ⟨w.heap.size, 0, none⟩ = some (.int .i64 X.op) := (below_cellP hb (by simp)).trans (rowCell (heap_alloc_at (w := w)))
  have f1 : w1.cell? ⟨w.heap.size, 1, none⟩ = some (.int .i64 X.a) := (below_cellP hb (by simp)).trans (rowCell (heap_alloc_at (w := w)))
  have f2 : w1.cell? ⟨w.heap.size, 2, none⟩ = some (.int .i64 X.b) := (below_cellP hb (by simp)).trans (rowCell (heap_alloc_at (w := w)))
  have f3 : w1.cell? ⟨w.heap.size, 3, none⟩ = some (.int .i64 X.c) := (below_cellP hb (by simp)).trans (rowCell (heap_alloc_at (w := w)))
  have f4 : w1.cell? ⟨w.heap.size, 4, none⟩ = some (.int .u64 X.v) := (below_cellP hb (by simp)).trans (rowCell (heap_alloc_at (w := w)))
  have f5 : w1.cell? ⟨w.heap.size, 5, none⟩ = some (.int .i64 X.m) := (below_cellP hb (by simp)).trans (rowCell (heap_alloc_at (w := w)))
  have f6 : w1.cell? ⟨w.heap.size, 6, none⟩ = some (.int .i64 X.wh) := (below_cellP hb (by simp)).trans (rowCell (heap_alloc_at (w := w)))
  have hz : w.heap.size < w1.heap.size := by have := hb.size; simp at this; omega
  obtain ⟨B, hB⟩ : ∃ B, B = w.heap.size := ⟨_, rfl⟩
  obtain ⟨C, hC⟩ : ∃ C, C = w1.heap.size := ⟨_, rfl⟩
  rw [← hB] at f0 f1 f2 f3 f4 f5 f6 hz
  rw [← hC] at hz
  go_upto_region 2 with fail
  rw [← hB, ← hC]
  obtain ⟨W, hW⟩ : ∃ W, W = w1.alloc (.cells #[.bool oA, .bool oB, .bool oC, .bool oV, .bool nB, .bool nC, .bool oP, .bool oI] 47) := ⟨_, rfl⟩
  rw [← hW]
  have HBW : Hid (Below w.heap.size w W) := by show Below _ w W; rw [hW]; exact HB.out.alloc HB.out.size _
  have F : ∀ i u, w1.cell? ⟨B, i, none⟩ = some u → W.cell? ⟨B, i, none⟩ = some u := by
    intro i u h; rw [hW, World.cell?_alloc_past _ _ _ (by rw [← hC]; exact hz)]; exact h
  have hCW : W.heap[C]? = some (.cells #[.bool oA, .bool oB, .bool oC, .bool oV, .bool nB, .bool nC, .bool oP, .bool oI] 47 (0, 0)) := by
    rw [hW, hC]; exact heap_alloc_at
  replace f0 := F _ _ f0
  replace f1 := F _ _ f1
  replace f2 := F _ _ f2
  replace f3 := F _ _ f3
  replace f4 := F _ _ f4
  replace f5 := F _ _ f5
  replace f6 := F _ _ f6
  have g0 : W.cell? ⟨C, 0, none⟩ = some (.bool oA) := rowCell hCW
  have g1 : W.cell? ⟨C, 1, none⟩ = some (.bool oB) := rowCell hCW
  have g2 : W.cell? ⟨C, 2, none⟩ = some (.bool oC) := rowCell hCW
  have g3 : W.cell? ⟨C, 3, none⟩ = some (.bool oV) := rowCell hCW
  have g4 : W.cell? ⟨C, 4, none⟩ = some (.bool nB) := rowCell hCW
  have g5 : W.cell? ⟨C, 5, none⟩ = some (.bool nC) := rowCell hCW
  have g6 : W.cell? ⟨C, 6, none⟩ = some (.bool oP) := rowCell hCW
  have g7 : W.cell? ⟨C, 7, none⟩ = some (.bool oI) := rowCell hCW
  clear hCW F hW hB hC hb HO HB
  obtain ⟨q1, hq1⟩ : ∃ q, k1 X (oA, oB, oC, oV, nB, nC, oP, oI) lb = q := ⟨_, rfl⟩
  have HQ1 := Lib.hid hq1
  clear hq1
  obtain ⟨av, hav⟩ : ∃ av, av = Value.agg #[.int .i64 X.op, .int .i64 X.a, .int .i64 X.b, .int .i64 X.c, .int .u64 X.v, .int .i64 X.m, .int .i64 X.wh] := ⟨_, rfl⟩
  rw [← hav]
  clear hav
  go_cut [36] (fun s wz => s = .bool q1 ∧ W = wz)
  case first => as_aux_lemma =>
    cases lb
    all_goals
      go_wp2
      all_goals as_aux_lemma =>
        go_meet
        refine ⟨congrArg Value.bool ?_, rfl⟩
        rw [← HQ1.out]
        unfold k1
        simp [*]
  case rest =>
    obtain ⟨rfl, rfl⟩ := hcut
    cases q1
    case true => as_aux_lemma =>
      go_wp2
      go_ret
      refine RetN.mk ?_ HBW.out
      rw [HR.out]
      unfold rightO
      rw [HQ1.out]
      simp
    case false =>
      go_upto_region 4 with fail
      obtain ⟨q2, hq2⟩ : ∃ q, k2 X (oA, oB, oC, oV, nB, nC, oP, oI) = q := ⟨_, rfl⟩
      have Hq2 := Lib.hid hq2
      clear hq2
      go_cut [74] (fun s wz => s = .bool q2 ∧ W = wz)
      case first => as_aux_lemma =>
        go_wp2
        all_goals as_aux_lemma =>
          go_meet
          refine ⟨congrArg Value.bool ?_, rfl⟩
          rw [← Hq2.out]
          unfold k2
          first
            | (simp [*]; done)
            | (rw [Bool.eq_iff_iff]; cases oA <;> simp [*] <;> omega)
      case rest =>
        obtain ⟨rfl, rfl⟩ := hcut
        cases q2
        case true => as_aux_lemma =>
          go_wp2
          go_ret
          refine RetN.mk ?_ HBW.out
          rw [HR.out]
          unfold rightO
          rw [Hq2.out]
          simp
        case false =>
          go_upto_region 6 with fail
          obtain ⟨q3, hq3⟩ : ∃ q, k3 X (oA, oB, oC, oV, nB, nC, oP, oI) = q := ⟨_, rfl⟩
          have Hq3 := Lib.hid hq3
          clear hq3
          go_cut [92] (fun s wz => s = .bool q3 ∧ W = wz)
          case first => as_aux_lemma =>
            go_wp2_with (go_at_call 48; refine (rreg_any _ _).mono ?_; rintro e w' ⟨rfl, rfl⟩)
            all_goals as_aux_lemma =>
              go_meet
              refine ⟨congrArg Value.bool ?_, rfl⟩
              rw [← Hq3.out]
              unfold k3
              simp [*]
          case rest =>
            obtain ⟨rfl, rfl⟩ := hcut
            cases q3
            case true => as_aux_lemma =>
              go_wp2
              go_ret
              refine RetN.mk ?_ HBW.out
              rw [HR.out]
              unfold rightO
              rw [Hq3.out]
              simp
            case false =>
              go_upto_region 8 with fail
              obtain ⟨u1, hu1⟩ : ∃ q, v1 X (oA, oB, oC, oV, nB, nC, oP, oI) = q := ⟨_, rfl⟩
              have Hu1 := Lib.hid hu1
              clear hu1
              obtain ⟨q4, hq4⟩ : ∃ q, k4 X (oA, oB, oC, oV, nB, nC, oP, oI) = q := ⟨_, rfl⟩
              have Hq4 := Lib.hid hq4
              clear hq4
              go_upto_block 0 with fail
              go_cut [8] (fun s wz => s = .bool u1 ∧ Hid (q4 = false) ∧ W = wz)
              case first =>
                go_upto_region 9 with fail
                go_cut [95] (fun s wz => s = .bool q4 ∧ W = wz)
                case first => as_aux_lemma =>
                  go_wp2_with (go_at_call 48; refine (rreg_any _ _).mono ?_; rintro e w' ⟨rfl, rfl⟩)
                  all_goals as_aux_lemma =>
                    go_meet
                    refine ⟨congrArg Value.bool ?_, rfl⟩
                    rw [← Hq4.out]
                    unfold k4
                    first
                      | (simp [*]; done)
                      | (rw [Bool.eq_iff_iff]; simp [*] <;> omega)
                case rest =>
                  obtain ⟨rfl, rfl⟩ := hcut
                  cases q4
                  case true => as_aux_lemma =>
                    go_wp2
                    go_ret
                    refine RetN.mk ?_ HBW.out
                    rw [HR.out]
                    unfold rightO
                    rw [Hq4.out]
                    simp
                  case false =>
                    go_wp2
                    all_goals as_aux_lemma =>
                      go_meet
                      refine ⟨congrArg Value.bool ?_, trivial, rfl⟩
                      rw [← Hu1.out]
                      unfold v1
                      first
                        | (simp [*]; done)
                        | (rw [Bool.eq_iff_iff]; simp [*] <;> omega)
              case rest =>
                obtain ⟨rfl, hq4, rfl⟩ := hcut
                obtain rfl := hq4.out
                obtain ⟨u2, hu2⟩ : ∃ q, v2 X (oA, oB, oC, oV, nB, nC, oP, oI) u1 = q := ⟨_, rfl⟩
                have Hu2 := Lib.hid hu2
                clear hu2
                obtain ⟨q5, hq5⟩ : ∃ q, k5 X (oA, oB, oC, oV, nB, nC, oP, oI) = q := ⟨_, rfl⟩
                have Hq5 := Lib.hid hq5
                clear hq5
                go_upto_block 1 with fail
                go_cut [8] (fun s wz => s = .bool u2 ∧ Hid (q5 = false) ∧ W = wz)
                case first =>
                  go_upto_region 13 with fail
                  go_cut [133] (fun s wz => s = .bool q5 ∧ W = wz)
                  case first => as_aux_lemma =>
                    go_wp2_with (go_at_call 48; refine (rreg_any _ _).mono ?_; rintro e w' ⟨rfl, rfl⟩)
                    all_goals as_aux_lemma =>
                      go_meet
                      refine ⟨congrArg Value.bool ?_, rfl⟩
                      rw [← Hq5.out]
                      unfold k5
                      first
                        | (simp [*]; done)
                        | (rw [Bool.eq_iff_iff]; simp [*] <;> omega)
                  case rest =>
                    obtain ⟨rfl, rfl⟩ := hcut
                    cases q5
                    case true => as_aux_lemma =>
                      go_wp2
                      go_ret
                      refine RetN.mk ?_ HBW.out
                      rw [HR.out]
                      unfold rightO
                      rw [Hq5.out]
                      simp
                    case false =>
                      go_wp2
                      all_goals as_aux_lemma =>
                        go_meet
                        refine ⟨congrArg Value.bool ?_, trivial, rfl⟩
                        rw [← Hu2.out]
                        unfold v2
                        first
                          | (simp [*]; done)
                          | (rw [Bool.eq_iff_iff]; simp [*] <;> omega)
                case rest =>
                  obtain ⟨rfl, hq5, rfl⟩ := hcut
                  obtain rfl := hq5.out
                  go_upto_region 17 with fail
                  cases u2
                  case true => as_aux_lemma =>
                    go_wp2
                    all_goals as_aux_lemma =>
                      go_ret
                      refine RetN.mk ?_ HBW.out
                      rw [HR.out]
                      unfold rightO
                      rw [HQ1.out, Hq2.out, Hq3.out, Hq4.out, Hq5.out, Hu1.out, Hu2.out]
                      unfold k6
                      first
                        | (simp [*]; done)
                        | (rw [Bool.eq_iff_iff]; simp [*] <;> omega)
                  case false => as_aux_lemma =>
                    go_wp2
                    all_goals as_aux_lemma =>
                      go_ret
                      refine RetN.mk ?_ HBW.out
                      rw [HR.out]
                      unfold rightO
                      rw [HQ1.out, Hq2.out, Hq3.out, Hq4.out, Hq5.out, Hu1.out, Hu2.out]
                      unfold k6
                      first
                        | (simp [*]; done)
                        | (rw [Bool.eq_iff_iff]; simp [*] <;> omega)
end Go.Proofs.YtnoejikcdigceaaDoor
