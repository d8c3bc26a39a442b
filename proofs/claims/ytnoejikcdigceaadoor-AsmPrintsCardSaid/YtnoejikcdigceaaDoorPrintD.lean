/- asm.bad: contract. -/
import Derived.Test.YtnoejikcdigceaaDoorRowW
import Derived.Test.YtnoejikcdigceaaDoorSame
import Derived.Deep.DeepCutAuto
import Derived.RegionTactic
import Derived.BigRegion
set_option linter.unusedVariables false
set_option linter.unusedSimpArgs false
namespace Go.Proofs.YtnoejikcdigceaaDoor
open Go.RowKit
def isLib (X : Ins) : Bool := decide (22 < X.op) || decide (X.m ≠ 0)
def retX : Ins := ⟨16, 0, 0, 0, 0, 0, 0⟩
def cliV (X : Ins) : Ins := if isLib X then retX else X
def libV (X : Ins) : Ins := if isLib X then X else retX
def rowsTo (f : Ins → Ins) (l : List Ins) (k : Nat) : List Ins := (l.take k).map f ++ List.replicate (l.length - k) zI
theorem rowsTo_len (f : Ins → Ins) (l : List Ins) (k : Nat) (hk : k ≤ l.length) : (rowsTo f l k).length = l.length := by simp [rowsTo]; omega
theorem rowsTo_set (f : Ins → Ins) (l : List Ins) (k : Nat) (X : Ins) (hX : l[k]? = some X) : (rowsTo f l k).set k (f X) = rowsTo f l (k + 1) := by
  have hk : k < l.length := (List.getElem?_eq_some_iff.1 hX).1
  have e : l.take (k + 1) = l.take k ++ [X] := by
    rw [List.take_add_one, hX]; rfl
  unfold rowsTo
  rw [e, List.map_append, List.set_append_right _ _ (by simp; omega), show l.length - k = (l.length - (k + 1)) + 1 from by omega, List.replicate_succ]
  simp [Nat.min_eq_left (Nat.le_of_lt hk)]
theorem modify_set : ∀ (L : List Ins) (k : Nat) (f : Ins → Ins) (Y : Ins), L[k]? = some Y → L.modify k f = L.set k (f Y)
  | [], k, f, Y, h => by simp at h
  | x :: L, 0, f, Y, h => by
    obtain rfl : x = Y := by simpa using h
    rfl
  | x :: L, k + 1, f, Y, h => by
    rw [List.modify_succ_cons, List.set_cons_succ, modify_set L k f Y (by simpa using h)]
theorem rowsTo_at (f : Ins → Ins) (l : List Ins) (k : Nat) (hk : k < l.length) : (rowsTo f l k)[k]? = some zI := by
  have e : ((l.take k).map f).length = k := by simp; omega
  unfold rowsTo
  rw [List.getElem?_append_right (by omega), e, List.getElem?_replicate, if_pos (by omega)]
theorem rowsTo_op (f : Ins → Ins) (l : List Ins) (k : Nat) (hk : k < l.length) : (rowsTo f l k).modify k (fun X => { X with op := 16 }) = (rowsTo f l k).set k retX :=
  modify_set _ _ _ _ (rowsTo_at f l k hk)
theorem alloc_at'' {W : World} {o : Obj} {n : Nat} (h : n = W.heap.size) : (W.alloc o).heap[n]? = some o := by subst h; exact heap_alloc_at
theorem RowB.alloc {w : World} {g : Nat} {L : List Ins} (h : RowB w g L) (o : Obj) : RowB (w.alloc o) g L := by
  unfold RowB at h ⊢
  rw [heap_alloc_lt (Array.getElem?_eq_some_iff.1 h).1]; exact h
def TwoRows (w : World) (B : Nat) (s3 s4 : Value) (N : Nat) (L1 L2 : List Ins) (w' : World) : Prop :=
  ∃ g1 g2, s3 = .slice (some ⟨g1, 0, none⟩) N N ∧ s4 = .slice (some ⟨g2, 0, none⟩) N N ∧ g1 ≠ g2 ∧ B ≤ g1 ∧ B ≤ g2 ∧ RowB w' g1 L1 ∧ RowB w' g2 L2 ∧ Below B w w'
def comb (f : Int) : Option Nat → Int
  | none => f
  | some x => if f < 0 ∨ (x : Int) < f then x else f
def badR1 (l : List Ins) : Option Nat := badIx l.length false (l.map cliV) 0
def badR2 (l : List Ins) : Option Nat := badIx l.length true (l.map libV) 0
def badTo (l : List Ins) (i : Nat) : Int := if i = 0 then -1 else if i = 1 then comb (-1) (badR1 l) else comb (comb (-1) (badR1 l)) (badR2 l)
/-- The first instruction that may be neither; -1. -/
def badV (l : List Ins) : Int := badTo l 2
theorem rowsTo_all (f : Ins → Ins) (l : List Ins) : rowsTo f l l.length = l.map f := by unfold rowsTo; simp
/-- An error of Check's, or none. -/
def ErrC (w : World) (r : Option Nat) (v : Value) : Prop :=
  (r = none ∧ v = .nilIface) ∨ ∃ x b, r = some x ∧ v = .iface 68 (.pointer (some ⟨b, 0, none⟩)) ∧ w.heap[b]? = some (.cells #[.string ⟨#[99, 111, 100, 101]⟩, .int .i64 x, .iface 41 (.int .i64 5)] 72 (0, 0))
theorem ErrC.below {w w' : World} {r : Option Nat} {v : Value} (h : ErrC w r v) (hb : Below w.heap.size w w') : ErrC w' r v := by
  rcases h with h | ⟨x, b, h1, h2, h3⟩
  · exact Or.inl h
  · exact Or.inr ⟨x, b, h1, h2, by rw [hb.block b (Array.getElem?_eq_some_iff.1 h3).1]; exact h3⟩
theorem CheckOut.err {r : Option Nat} {w w' : World} {e : Ending} (h : CheckOut r w e w') : ∃ v, e = .returned v ∧ ErrC w' r v ∧ Below w.heap.size w w' := by
  cases r with
  | none => exact ⟨_, h.1, Or.inl ⟨rfl, rfl⟩, h.2⟩
  | some x =>
    obtain ⟨b, h1, h2, h3, h4⟩ := h
    exact ⟨_, h1, Or.inr ⟨x, b, rfl, rfl, h3⟩, h4⟩
theorem ErrC.nil_inv {w : World} {r : Option Nat} (h : ErrC w r .nilIface) : r = none := by
  rcases h with h | ⟨x, b, h1, h2, h3⟩
  · exact h.1
  · cases h2
theorem ErrC.at_inv {w : World} {r : Option Nat} {b : Nat} (h : ErrC w r (.iface 68 (.pointer (some ⟨b, 0, none⟩)))) : ∃ x : Nat, r = some x ∧ w.heap[b]? = some (.cells #[.string ⟨#[99, 111, 100, 101]⟩, .int .i64 x, .iface 41 (.int .i64 5)] 72 (0, 0)) := by
  rcases h with h | ⟨x, b', h1, h2, h3⟩
  · cases h.2
  · injection h2 with _ h2
    injection h2 with h2
    injection h2 with h2
    injection h2 with h2 _ _
    subst h2
    exact ⟨x, h1, h3⟩
theorem ErrC.form {w : World} {r : Option Nat} {v : Value} (h : ErrC w r v) : v = .nilIface ∨ ∃ b, v = .iface 68 (.pointer (some ⟨b, 0, none⟩)) := by
  rcases h with h | ⟨x, b, h1, h2, h3⟩
  · exact Or.inl h.2
  · exact Or.inr ⟨b, h2⟩
theorem badTo_1 (l : List Ins) : badTo l 1 = comb (badTo l 0) (badR1 l) := rfl
theorem badTo_2 (l : List Ins) : badTo l 2 = comb (badTo l 1) (badR2 l) := rfl
/-- The two errors, in a row. -/
def ErrRow (w : World) (s53 s54 s55 : Value) (r1 r2 : Option Nat) (wz : World) : Prop :=
  ∃ v1 v2 se, s53 = .slice (some ⟨se, 0, none⟩) 2 2 ∧ s54 = .int .i64 2 ∧ s55 = .int .i64 0 ∧ w.heap.size ≤ se ∧ wz.heap[se]? = some (.cells #[v1, v2] 28 (0, 0)) ∧ ErrC wz r1 v1 ∧ ErrC wz r2 v2 ∧ Below w.heap.size w wz
theorem check_row (l : List Ins) (N g : Nat) (lib : Bool) (hN : N = l.length) (hl : N ≤ 2048) (w : World) (hr : RowB w g l) :
    Calls Tryd.prog 44 #[.slice (some ⟨g, 0, none⟩) N N, .bool lib] w (CheckOut (badIx N lib l 0) w) := by
  subst hN
  exact check_any l _ _ lib hl (Nat.le_refl _) w (fun _ => ⟨g, rfl, hr.rowI⟩)
set_option maxRecDepth 100000 in
set_option maxHeartbeats 4000000 in
theorem bad_any (l : List Ins) (a : Option Addr) (c : Nat) (hl : l.length ≤ 2048) (hc : l.length ≤ c) (w : World) (hr : l ≠ [] → ∃ g, a = some ⟨g, 0, none⟩ ∧ RowI w g l)
    (hge : w.cell? ⟨0, 0, none⟩ = some (.iface 119 (.agg #[.pointer (some ⟨4, 28, none⟩)]))) :
    Calls Tryd.prog 24 #[.slice a l.length c] w (fun e w' => e = .returned (.int .i64 (badV l)) ∧ Below w.heap.size w w') := by
  have HR := Lib.hid hr
  have HGE := Lib.hid hge
  clear hge
  clear hr
  obtain ⟨N, hN⟩ : ∃ N, N = l.length := ⟨_, rfl⟩
  rw [← hN]
  have HN := Lib.hid hN
  rw [← hN] at hl hc
  have hmk := make37 N hl
  have HZ : Hid (flatIns (rowsTo cliV l 0) = flatIns (List.replicate N zI) ∧ flatIns (rowsTo libV l 0) = flatIns (List.replicate N zI)) := by
    rw [hN]; exact ⟨rfl, rfl⟩
  clear hN
  go_enter Tryd.func24, Tryd.ntmps24
  go_upto_region 1 with fail
  go_cut [3, 4] (fun s3 s4 wz => TwoRows w w.heap.size s3 s4 N (rowsTo cliV l 0) (rowsTo libV l 0) wz)
  case first =>
    go_region
    · go_wp2_with fail
      go_meet
      refine ⟨w.heap.size, w.heap.size + 1, rfl, rfl, by omega, by omega, by omega, ?_, ?_, (((Below.refl _ _).alloc (Nat.le_refl _) _).alloc (by simp) _).drew⟩
      · unfold RowB
        rw [HZ.out.1]
        show ((w.alloc _).alloc _).heap[w.heap.size]? = _
        rw [heap_alloc_lt (by simp)]; exact heap_alloc_at
      · unfold RowB
        rw [HZ.out.2]
        show ((w.alloc _).alloc _).heap[w.heap.size + 1]? = _
        exact alloc_at'' (by simp)
    · go_wp2_with fail
      go_meet
      refine ⟨w.heap.size + 1, w.heap.size, rfl, rfl, by omega, by omega, by omega, ?_, ?_, (((Below.refl _ _).alloc (Nat.le_refl _) _).alloc (by simp) _).drew⟩
      · unfold RowB
        rw [HZ.out.1]
        show ((w.alloc _).alloc _).heap[w.heap.size + 1]? = _
        exact alloc_at'' (by simp)
      · unfold RowB
        rw [HZ.out.2]
        show ((w.alloc _).alloc _).heap[w.heap.size]? = _
        rw [heap_alloc_lt (by simp)]; exact heap_alloc_at
  case rest =>
    clear hmk HZ
    obtain ⟨g1, g2, rfl, rfl, hne, hB1, hB2, h1, h2, hb⟩ := hcut
    have H1 := Lib.hid h1
    have H2 := Lib.hid h2
    have HB := Lib.hid hb
    clear h1 h2 hb
    go_wp2_with fail
    go_loopw [19] (fun s wz => ∃ k : Nat, s = .int .i64 k ∧ k ≤ N ∧ RowB wz g1 (rowsTo cliV l k) ∧ RowB wz g2 (rowsTo libV l k) ∧ Below w.heap.size w wz) (fun s _ => N - (intOf s).toNat)
    case atStart => exact ⟨0, rfl, Nat.zero_le _, H1.out, H2.out, HB.out⟩
    case round =>
      obtain ⟨k, rfl, hk, h1, h2, hb⟩ := hrel
      have hbs := hb.size
      by_cases hkn : k < N
      · have hkl : k < l.length := by rw [← HN.out]; exact hkn
        obtain ⟨g, rfl, hrow⟩ := HR.out (by intro e; subst e; simp at hkl)
        have hX : l[k]? = some l[k] := List.getElem?_eq_getElem hkl
        obtain ⟨X, hXX⟩ : ∃ X, X = l[k] := ⟨_, rfl⟩
        rw [← hXX] at hX
        obtain ⟨f0, f1, f2, f3, f4, f5, f6⟩ := flatIns_cells l k X hX
        have hrw := hrow.below hb
        have a0 := hrw.cell _ _ f0
        have a1 := hrw.cell _ _ f1
        have a2 := hrw.cell _ _ f2
        have a3 := hrw.cell _ _ f3
        have a4 := hrw.cell _ _ f4
        have a5 := hrw.cell _ _ f5
        have a6 := hrw.cell _ _ f6
        have hk3 : (k : Int) < (N : Int) := by omega
        have hglt := hrw.lt
        have HX := Lib.hid hX
        have q1 := rowsTo_at cliV l k hkl
        have q2 := rowsTo_at libV l k hkl
        have b0 := h1.cell (flatIns_cells _ _ _ q1).1
        have b1 := h2.cell (flatIns_cells _ _ _ q2).1
        have p1 := h1.free (k * 7)
        have p2 := h2.free (k * 7)
        have l1 := h1.rowI.lt
        have l2 := h2.rowI.lt
        have H1 := Lib.hid h1
        have H2 := Lib.hid h2
        have HB := Lib.hid hb
        clear hXX hX f0 f1 f2 f3 f4 f5 f6 hb hrw hrow h1 h2 q1 q2
        go_upto_region 6 with fail
        obtain ⟨W6, hW6⟩ : ∃ W6, ((wr.setCell ⟨g1, k * 7, none⟩ (.int .i64 16)).setCell ⟨g2, k * 7, none⟩ (.int .i64 16)).alloc (.cells #[.int .i64 X.op, .int .i64 X.a, .int .i64 X.b, .int .i64 X.c, .int .u64 X.v, .int .i64 X.m, .int .i64 X.wh] 37) = W6 := ⟨_, rfl⟩
        have hx6 : W6.heap[wr.heap.size]? = some (.cells #[.int .i64 X.op, .int .i64 X.a, .int .i64 X.b, .int .i64 X.c, .int .u64 X.v, .int .i64 X.m, .int .i64 X.wh] 37 (0, 0)) := by
          rw [← hW6]; exact alloc_at'' (by simp)
        have x0 : W6.cell? ⟨wr.heap.size, 0, none⟩ = some (.int .i64 X.op) := rowCell hx6
        have x1 : W6.cell? ⟨wr.heap.size, 1, none⟩ = some (.int .i64 X.a) := rowCell hx6
        have x2 : W6.cell? ⟨wr.heap.size, 2, none⟩ = some (.int .i64 X.b) := rowCell hx6
        have x3 : W6.cell? ⟨wr.heap.size, 3, none⟩ = some (.int .i64 X.c) := rowCell hx6
        have x4 : W6.cell? ⟨wr.heap.size, 4, none⟩ = some (.int .u64 X.v) := rowCell hx6
        have x5 : W6.cell? ⟨wr.heap.size, 5, none⟩ = some (.int .i64 X.m) := rowCell hx6
        have x6 : W6.cell? ⟨wr.heap.size, 6, none⟩ = some (.int .i64 X.wh) := rowCell hx6
        have r1 : RowB W6 g1 ((rowsTo cliV l k).set k retX) := by
          rw [← hW6, ← rowsTo_op cliV l k hkl]
          exact ((H1.out.set_op k 16 (by rw [rowsTo_len _ _ _ (by omega)]; exact hkl)).other hne _ _).alloc _
        have r2 : RowB W6 g2 ((rowsTo libV l k).set k retX) := by
          rw [← hW6, ← rowsTo_op libV l k hkl]
          exact ((H2.out.other (Ne.symm hne) _ _).set_op k 16 (by rw [rowsTo_len _ _ _ (by omega)]; exact hkl)).alloc _
        have HB6 : Hid (Below w.heap.size w W6) := by
          show Below _ _ _
          rw [← hW6]
          exact ((HB.out.setCell (by simpa using hB1) _).setCell (by simpa using hB2) _).alloc (by simp; omega) _
        have hsz6 : wr.heap.size < W6.heap.size := (Array.getElem?_eq_some_iff.1 hx6).1
        have R1 := Lib.hid r1
        have R2 := Lib.hid r2
        have l16 := r1.rowI.lt
        have l26 := r2.rowI.lt
        rw [hW6]
        clear hW6 hx6 a0 a1 a2 a3 a4 a5 a6 b0 b1 p1 p2 l1 l2
        have key1 : (((rowsTo cliV l k).set k retX))[k]? = some retX := by rw [List.getElem?_set_self (by rw [rowsTo_len _ _ _ (by omega)]; exact hkl)]
        have key2 : (((rowsTo libV l k).set k retX))[k]? = some retX := by rw [List.getElem?_set_self (by rw [rowsTo_len _ _ _ (by omega)]; exact hkl)]
        obtain ⟨c0, c1, c2, c3, c4, c5, c6⟩ := flatIns_cells _ _ _ key1
        obtain ⟨d0, d1, d2, d3, d4, d5, d6⟩ := flatIns_cells _ _ _ key2
        have c0 := r1.cell c0
        have c1 := r1.cell c1
        have c2 := r1.cell c2
        have c3 := r1.cell c3
        have c4 := r1.cell c4
        have c5 := r1.cell c5
        have c6 := r1.cell c6
        have d0 := r2.cell d0
        have d1 := r2.cell d1
        have d2 := r2.cell d2
        have d3 := r2.cell d3
        have d4 := r2.cell d4
        have d5 := r2.cell d5
        have d6 := r2.cell d6
        have e0 := r1.free (k * 7)
        have e1 := r1.free (k * 7 + 1)
        have e2 := r1.free (k * 7 + 2)
        have e3 := r1.free (k * 7 + 3)
        have e4 := r1.free (k * 7 + 4)
        have e5 := r1.free (k * 7 + 5)
        have e6 := r1.free (k * 7 + 6)
        have f0 := r2.free (k * 7)
        have f1 := r2.free (k * 7 + 1)
        have f2 := r2.free (k * 7 + 2)
        have f3 := r2.free (k * 7 + 3)
        have f4 := r2.free (k * 7 + 4)
        have f5 := r2.free (k * 7 + 5)
        have f6 := r2.free (k * 7 + 6)
        clear r1 r2 key1 key2
        have HC : Hid (isLib X = true → (rowsTo cliV l k).set k retX = rowsTo cliV l (k + 1) ∧ ((rowsTo libV l k).set k retX).set k X = rowsTo libV l (k + 1)) := by
          intro h
          have e1 : cliV X = retX := by unfold cliV; rw [h]; rfl
          have e2 : libV X = X := by unfold libV; rw [h]; rfl
          rw [← rowsTo_set cliV l k X HX.out, ← rowsTo_set libV l k X HX.out, e1, e2, List.set_set]
          exact ⟨rfl, rfl⟩
        have HD : Hid (isLib X = false → ((rowsTo cliV l k).set k retX).set k X = rowsTo cliV l (k + 1) ∧ (rowsTo libV l k).set k retX = rowsTo libV l (k + 1)) := by
          intro h
          have e1 : cliV X = X := by unfold cliV; rw [h]; rfl
          have e2 : libV X = retX := by unfold libV; rw [h]; rfl
          rw [← rowsTo_set cliV l k X HX.out, ← rowsTo_set libV l k X HX.out, e1, e2, List.set_set]
          exact ⟨rfl, rfl⟩
        by_cases k1 : 22 < X.op
        · have HL := Lib.hid (HC.out (by unfold isLib; simp [k1]))
          clear c0 c1 c2 c3 c4 c5 c6 e0 e1 e2 e3 e4 e5 e6
          go_wp2
          go_roundw
          case rel => exact ⟨k + 1, by go_num, by omega, by rw [← HL.out.1]; exact R1.out.other7 hne _ X, by rw [← HL.out.2]; exact R2.out.set7 k X (by simp [rowsTo_len _ _ _ (Nat.le_of_lt hkl)]; exact hkl), below_set7 HB6.out hB2 X⟩
          case measure => simp [intOf]; omega
        · by_cases k2 : X.m = 0
          · have k3 : (X.m != 0) = false := by rw [bne_eq_false_iff_eq]; exact k2
            have HL := Lib.hid (HD.out (by unfold isLib; simp [k1, k2]))
            clear d0 d1 d2 d3 d4 d5 d6 f0 f1 f2 f3 f4 f5 f6 k2
            go_wp2
            go_roundw
            case rel => exact ⟨k + 1, by go_num, by omega, by rw [← HL.out.1]; exact R1.out.set7 k X (by simp [rowsTo_len _ _ _ (Nat.le_of_lt hkl)]; exact hkl), by rw [← HL.out.2]; exact R2.out.other7 (Ne.symm hne) _ X, below_set7 HB6.out hB1 X⟩
            case measure => simp [intOf]; omega
          · have k3 : (X.m != 0) = true := by rw [bne_iff_ne]; exact k2
            have HL := Lib.hid (HC.out (by unfold isLib; simp [k2]))
            clear c0 c1 c2 c3 c4 c5 c6 e0 e1 e2 e3 e4 e5 e6 k2
            go_wp2
            go_roundw
            case rel => exact ⟨k + 1, by go_num, by omega, by rw [← HL.out.1]; exact R1.out.other7 hne _ X, by rw [← HL.out.2]; exact R2.out.set7 k X (by simp [rowsTo_len _ _ _ (Nat.le_of_lt hkl)]; exact hkl), below_set7 HB6.out hB2 X⟩
            case measure => simp [intOf]; omega
      · obtain rfl : k = N := by omega
        have hk3 : ¬ (k : Int) < (k : Int) := by omega
        have H1 := Lib.hid h1
        have H2 := Lib.hid h2
        have HB := Lib.hid hb
        have C1 := Lib.hid (check_row (l.map cliV) k g1 false (by simp; exact HN.out) hl wr (by
          have h := H1.out
          rw [HN.out, rowsTo_all] at h; exact h))
        clear h1 h2 hb
        go_upto_region 11 with fail
        go_cut [53, 54, 55] (fun s53 s54 s55 wz => ErrRow w s53 s54 s55 (badR1 l) (badR2 l) wz)
        case first =>
          go_wp2_with fail
          refine C1.out.mono ?_
          intro e w1 hck
          obtain ⟨v1, rfl, he1, hb1⟩ := hck.err
          have HE1 := Lib.hid he1
          have HB1 : Hid (Below w.heap.size w w1) := HB.out.trans (hb1.mono hbs)
          have C2 := Lib.hid (check_row (l.map libV) k g2 true (by simp; exact HN.out) hl w1 (by
            have h := H2.out.below hb1
            rw [HN.out, rowsTo_all] at h; exact h))
          clear he1 hb1 hck C1
          go_wp2_with fail
          refine C2.out.mono ?_
          intro e w2 hck
          obtain ⟨v2, rfl, he2, hb2⟩ := hck.err
          have HE2 := Lib.hid he2
          have HE1' := Lib.hid (HE1.out.below hb2)
          have HB2 : Hid (Below w.heap.size w w2) := HB1.out.trans (hb2.mono HB1.out.size)
          clear he2 hb2 hck C2
          have E1 : Hid (ErrC w2 (badR1 l) v1) := by show ErrC _ _ _; unfold badR1; rw [← HN.out]; exact HE1'.out
          have E2 : Hid (ErrC w2 (badR2 l) v2) := by show ErrC _ _ _; unfold badR2; rw [← HN.out]; exact HE2.out
          clear HE1 HE1' HE2 H1 H2
          rcases E1.out.form with e1 | ⟨b1, e1⟩ <;> rcases E2.out.form with e2 | ⟨b2, e2⟩ <;> subst e1 <;> subst e2
          all_goals
            go_wp2
            go_meet
            exact ⟨_, _, w2.heap.size, rfl, rfl, rfl, HB2.out.size, heap_alloc_at, E1.out.below ((Below.refl _ _).alloc (Nat.le_refl _) _), E2.out.below ((Below.refl _ _).alloc (Nat.le_refl _) _), HB2.out.alloc HB2.out.size _⟩
        case rest =>
          clear C1 H1 H2 HB
          obtain ⟨w3, hw3⟩ : ∃ w3, wc = w3 := ⟨_, rfl⟩
          obtain ⟨v1, v2, se, rfl, rfl, rfl, hse, hrow, he1, he2, hb3⟩ := hcut
          have HROW := Lib.hid hrow
          have HE1 := Lib.hid he1
          have HE2 := Lib.hid he2
          have HB3 := Lib.hid hb3
          have hsel : se < wc.heap.size := (Array.getElem?_eq_some_iff.1 hrow).1
          clear hrow he1 he2 hb3 hw3
          go_wp2_with fail
          go_loopw [7, 55] (fun f s wz => ∃ i : Nat, s = .int .i64 i ∧ i ≤ 2 ∧ f = .int .i64 (badTo l i) ∧ Below wc.heap.size wc wz) (fun _ s _ => 2 - (intOf s).toNat)
          case atStart => exact ⟨0, rfl, by omega, rfl, Below.refl _ _⟩
          case round =>
            obtain ⟨i, rfl, hi, rfl, hb⟩ := hrel
            have HB := Lib.hid hb
            have hbs := hb.size
            have hz0 : 0 < wr.heap.size := by omega
            have HGW : Hid (wr.cell? ⟨0, 0, none⟩ = some (.iface 119 (.agg #[.pointer (some ⟨4, 28, none⟩)]))) :=
              (below_cellP HB.out (by omega)).trans ((below_cellP HB3.out (World.block_lt_of_cell? w _ HGE.out)).trans HGE.out)
            by_cases hi2 : i < 2
            · obtain ⟨v, r, hv, hr, hf⟩ : ∃ v r, wr.cell? ⟨se, i, none⟩ = some v ∧ ErrC wr r v ∧ badTo l (i + 1) = comb (badTo l i) r := by
                have h : i = 0 ∨ i = 1 := by omega
                rcases h with rfl | rfl
                · exact ⟨v1, _, (below_cellP hb hsel).trans (rowCell HROW.out), HE1.out.below hb, rfl⟩
                · exact ⟨v2, _, (below_cellP hb hsel).trans (rowCell HROW.out), HE2.out.below hb, rfl⟩
              obtain ⟨f, hf0⟩ : ∃ f, f = badTo l i := ⟨_, rfl⟩
              rw [← hf0] at hf ⊢
              have HF := Lib.hid hf
              have hi3 : (i : Int) < 2 := by omega
              have hsw : se < wr.heap.size := by omega
              clear hf hf0 hb
              rcases hr.form with rfl | ⟨b, rfl⟩
              · obtain rfl := hr.nil_inv
                clear hr
                go_wp2_with (go_at_call 23; refine (as_nil _ _).mono ?_; rintro e w' ⟨rfl, rfl⟩)
                go_roundw
                case rel => exact ⟨i + 1, by go_num, by omega, by rw [HF.out]; rfl, HB.out.alloc hbs _⟩
                case measure => simp [intOf]; omega
              · obtain ⟨x, rfl, hbx⟩ := hr.at_inv
                have hbl : b < wr.heap.size := (Array.getElem?_eq_some_iff.1 hbx).1
                have HBX := Lib.hid hbx
                clear hr hbx
                go_wp2_with fail
                refine (as_hit2 ⟨b, 0, none⟩ wr.heap.size (.pointer none) (wr.alloc (.cells #[.pointer none] 68)) ?_ ?_ ?_).mono ?_
                · rw [World.cell?_alloc_past _ _ _ hz0]; exact HGW.out
                · exact rowCell heap_alloc_at
                · exact rowFree heap_alloc_at
                rintro e w5 ⟨rfl, ht, hgr⟩
                have c1 : w5.cell? ⟨b, 1, none⟩ = some (.int .i64 x) := by
                  refine (grown_cell hgr (by simp; omega) (by omega)).trans ?_
                  rw [World.cell?_alloc_past _ _ _ hbl]; exact rowCell HBX.out
                have hlt5 : wr.heap.size < w5.heap.size := by have := hgr.size; simp at this; omega
                have HB5 : Hid (Below wc.heap.size wc w5) := by
                  have h1 := HB.out.alloc hbs (.cells #[.pointer none] 68)
                  exact ⟨hgr.os.trans h1.os, hgr.tape.trans h1.tape, hgr.output.trans h1.output, Nat.le_trans h1.size hgr.size, fun k hk => (hgr.block k (by simp; omega) (fun e => by have := Option.some.inj e; omega)).trans (h1.block k hk)⟩
                clear hgr
                by_cases hn : f < 0
                · have HC : Hid (comb f (some x) = x) := if_pos (Or.inl hn)
                  go_wp2
                  go_roundw
                  case rel => exact ⟨i + 1, by go_num, by omega, by rw [HF.out, HC.out], HB5.out⟩
                  case measure => simp [intOf]; omega
                · by_cases hx : (x : Int) < f
                  · have HC : Hid (comb f (some x) = x) := if_pos (Or.inr hx)
                    go_wp2
                    go_roundw
                    case rel => exact ⟨i + 1, by go_num, by omega, by rw [HF.out, HC.out], HB5.out⟩
                    case measure => simp [intOf]; omega
                  · have HC : Hid (comb f (some x) = f) := if_neg (by omega)
                    go_wp2
                    go_roundw
                    case rel => exact ⟨i + 1, by go_num, by omega, by rw [HF.out, HC.out], HB5.out⟩
                    case measure => simp [intOf]; omega
            · obtain rfl : i = 2 := by omega
              clear hb
              go_wp2
              go_ret
              exact ⟨rfl, HB3.out.trans (HB.out.mono HB3.out.size)⟩
end Go.Proofs.YtnoejikcdigceaaDoor
