/- distaffref05.Print: contract. -/
import Derived.Test.YtnoejikcdigceaaDoorRefL
import Derived.Test.YtnoejikcdigceaaDoorRefQ
import Derived.Test.YtnoejikcdigceaaDoorSame
import Derived.Test.YtnoejikcdigceaaDoorArg
import Derived.Test.YtnoejikcdigceaaDoorCodeH
import Derived.Test.YtnoejikcdigceaaDoorGJoin
set_option linter.unusedVariables false
set_option linter.unusedSimpArgs false
namespace Go.Proofs.YtnoejikcdigceaaDoor
open Go.RowKit
theorem field_placeR (a b c d x y z i : Bool) (W : World) : (Instr.field 47 (.agg #[.bool a, .bool b, .bool c, .bool d, .bool x, .bool y, .bool z, .bool i]) 6).run Tryd.prog W = .ok (.bool z) W := by kernel_rfl
theorem insL_sizeR (X : Ins) : (lineB X).size ≤ 389 := by
  have h := insL_len X
  rw [← lineB_list] at h
  simp at h
  omega
def asmB : ByteArray := ⟨#[97, 115, 109]⟩
/-- What the reference hands back. -/
def RPrinted (r : Except (Int × Int) ByteArray) (w : World) (e : Ending) (w' : World) : Prop :=
  match r with
  | .ok s => e = .returned (.tuple #[.string s, .pointer none]) ∧ Below w.heap.size w w'
  | .error (n, k) => ∃ p, e = .returned (.tuple #[.string ⟨#[]⟩, .pointer (some ⟨p, 0, none⟩)]) ∧ w.heap.size ≤ p ∧ FailAt w' p asmB n k ∧ Below w.heap.size w w'
theorem no_call (n k : Int) (w : World) : Calls Tryd.prog 13 #[.string ⟨#[97, 115, 109]⟩, .int .i64 n, .int .i64 k] w fun e w' => ∃ p, e = .returned (.pointer (some ⟨p, 0, none⟩)) ∧ w.heap.size ≤ p ∧ FailAt w' p asmB n k ∧ Below w.heap.size w w' := no_any asmB n k w
theorem right_call (X : Ins) (n : Nat) (hn : n ≤ 1000000) (lib b : Bool) (h : rightV X n lib = b) (w : World) : Calls Tryd.prog 30 #[insAgg X, .int .i64 n, .bool lib] w (RetN b w) := by rw [← h]; exact right_any X n hn lib w
theorem RPrinted.err {r : Except (Int × Int) ByteArray} {n k : Int} {w w' : World} {p : Nat} (h : r = .error (n, k)) (hp : w.heap.size ≤ p) (hf : FailAt w' p asmB n k) (hb : Below w.heap.size w w') :
    RPrinted r w (.returned (.tuple #[.string ⟨#[]⟩, .pointer (some ⟨p, 0, none⟩)])) w' := by subst h; exact ⟨p, rfl, hp, hf, hb⟩
theorem RPrinted.good {r : Except (Int × Int) ByteArray} {s t : ByteArray} {w w' : World} (h : r = .ok s) (ht : t = s) (hb : Below w.heap.size w w') :
    RPrinted r w (.returned (.tuple #[.string t, .pointer none])) w' := by subst h; subst ht; exact ⟨rfl, hb⟩
def LabOut (L : List UInt8) (n : Nat) (v : Value) : Prop := ∃ y : ByteArray, v = .string y ∧ y.data.toList = L ∧ y.size ≤ n
theorem okV_may {X : Ins} {N : Nat} (h : okV X N = true) : mayV X N (isLib X) = true := by rw [← okV_eq]; exact h
theorem okV_op {X : Ins} {N : Nat} (h : okV X N = true) : 1 ≤ X.op ∧ X.op ≤ 58 := (mayF_of (okV_may h)).op
set_option maxRecDepth 100000 in
set_option maxHeartbeats 8000000 in
theorem rprintc_big (l : List Ins) (a : Option Addr) (c : Nat) (hl : 2048 < l.length) (w : World) : Calls Tryd.prog 18 #[.slice a l.length c] w (RPrinted (printV l) w) := by
  have HE : Hid (printV l = .error (0, 3)) := by show _ = _; unfold printV; rw [if_pos hl]
  have hl2 : (2048 : Int) < (l.length : Int) := by omega
  obtain ⟨r, hr⟩ : ∃ r, printV l = r := ⟨_, rfl⟩
  rw [hr] at HE ⊢
  clear hr
  go_enter Tryd.func18, Tryd.ntmps18
  go_wp2_with fail
  refine (no_call 0 3 w).mono ?_
  rintro e w' ⟨p, rfl, hp, hf, hb⟩
  have HF := Lib.hid hf
  have HB := Lib.hid hb
  clear hf hb
  go_wp2
  go_ret2
  exact RPrinted.err HE.out hp HF.out HB.out
set_option maxRecDepth 100000 in
set_option maxHeartbeats 8000000 in
theorem rprintc_some (l : List Ins) (b o c : Nat) (hl : l.length ≤ 2048) (hl0 : 1 ≤ l.length) (hc : l.length ≤ c) (hv : ∀ X ∈ l, 0 ≤ X.v ∧ X.v ≤ 18446744073709551615) (w : World) (hbl : b < w.heap.size)
    (hcell : ∀ j u, (flatIns l)[j]? = some u → w.cell? ⟨b, o + j, none⟩ = some u) :
    Calls Tryd.prog 18 #[.slice (some ⟨b, o, none⟩) l.length c] w (RPrinted (printV l) w) := by
  have HC := Lib.hid hcell
  have HV := Lib.hid hv
  obtain ⟨N, hN⟩ : ∃ N, N = l.length := ⟨_, rfl⟩
  rw [← hN] at hl hl0 hc ⊢
  have HN := Lib.hid hN
  have hmk := make74 N hl
  obtain ⟨r, hr⟩ : ∃ r, printV l = r := ⟨_, rfl⟩
  have HRV := Lib.hid hr
  rw [hr]
  have hn0 : ¬ (2048 : Int) < (N : Int) := by omega
  clear hcell hv hN hr
  go_enter Tryd.func18, Tryd.ntmps18
  go_upto_block 0 with fail
  obtain ⟨gb, hgb⟩ : ∃ gb, gb = w.heap.size := ⟨_, rfl⟩
  have hw0 : RowG (w.alloc (.cells (bRow (List.replicate N false)) 4)) gb (gTo l N 0) := by
    rw [gTo_0, hgb]; exact heap_alloc_at
  have HW0 := Lib.hid hw0
  have HB2 : Hid (Below w.heap.size w (w.alloc (.cells (bRow (List.replicate N false)) 4))) := (Below.refl _ _).alloc (Nat.le_refl _) _
  have hgB : w.heap.size ≤ gb := by omega
  rw [← hgb]
  clear hw0 hgb hmk
  go_cut [] (fun wz => RowG wz gb (gTo l N N) ∧ Below w.heap.size w wz ∧ Hid (∀ (j : Nat) (Y : Ins), l[j]? = some Y → okV Y N = true))
  case first =>
    go_wp2_with fail
    go_loopw [5] (fun s wz => ∃ k : Nat, s = .int .i64 k ∧ k ≤ N ∧ RowG wz gb (gTo l N k) ∧ Below w.heap.size w wz ∧ Hid (∀ (j : Nat) (Y : Ins), j < k → l[j]? = some Y → okV Y N = true)) (fun s _ => N - (intOf s).toNat)
    case atStart => exact ⟨0, rfl, Nat.zero_le _, HW0.out, HB2.out, fun j Y hj => absurd hj (Nat.not_lt_zero _)⟩
    case round =>
      obtain ⟨k, rfl, hk, hg, hb, HOK⟩ := hrel
      have HB := Lib.hid hb
      have HG := Lib.hid hg
      have hbs := hb.size
      have hgbl : gb < wr.heap.size := (Array.getElem?_eq_some_iff.1 hg).1
      by_cases hkn : k < N
      · have hkl : k < l.length := by rw [← HN.out]; exact hkn
        have hX : l[k]? = some l[k] := List.getElem?_eq_getElem hkl
        obtain ⟨X, hXX⟩ : ∃ X, X = l[k] := ⟨_, rfl⟩
        rw [← hXX] at hX
        have HX := Lib.hid hX
        have HVX := Lib.hid (HV.out X (List.mem_of_getElem? hX))
        obtain ⟨f0, f1, f2, f3, f4, f5, f6⟩ := flatIns_cells l k X hX
        have HROW : Hid (∀ w', Below w.heap.size w w' → w'.cell? ⟨b, o + k * 7, none⟩ = some (.int .i64 X.op) ∧ w'.cell? ⟨b, o + k * 7 + 1, none⟩ = some (.int .i64 X.a) ∧ w'.cell? ⟨b, o + k * 7 + 2, none⟩ = some (.int .i64 X.b) ∧ w'.cell? ⟨b, o + k * 7 + 3, none⟩ = some (.int .i64 X.c) ∧ w'.cell? ⟨b, o + k * 7 + 4, none⟩ = some (.int .u64 X.v) ∧ w'.cell? ⟨b, o + k * 7 + 5, none⟩ = some (.int .i64 X.m) ∧ w'.cell? ⟨b, o + k * 7 + 6, none⟩ = some (.int .i64 X.wh)) := by
          intro w' h
          have e : ∀ i u, (flatIns l)[k * 7 + i]? = some u → w'.cell? ⟨b, o + k * 7 + i, none⟩ = some u := fun i u hu => by
            rw [Nat.add_assoc]; exact (below_cell h hbl).trans (HC.out _ _ hu)
          exact ⟨e 0 _ f0, e 1 _ f1, e 2 _ f2, e 3 _ f3, e 4 _ f4, e 5 _ f5, e 6 _ f6⟩
        have hk3 : (k : Int) < (N : Int) := by omega
        clear hXX hX f0 f1 f2 f3 f4 f5 f6 hb hg
        obtain ⟨q1, hq1⟩ : ∃ q, rightV X N true = q := ⟨_, rfl⟩
        obtain ⟨q2, hq2⟩ : ∃ q, rightV X N false = q := ⟨_, rfl⟩
        have HQ : Hid (okV X N = (q1 || q2)) := by show _ = _; unfold okV; rw [hq1, hq2]
        have HR1 := Lib.hid (fun w => right_call X N (by omega) true q1 hq1 w)
        have HR2 := Lib.hid (fun w => right_call X N (by omega) false q2 hq2 w)
        clear hq1 hq2
        obtain ⟨a0, a1, a2, a3, a4, a5, a6⟩ := HROW.out wr HB.out
        go_wp2_with fail
        refine (HR1.out _).mono ?_
        rintro e w1 ⟨rfl, hb1⟩
        have HB1 := Lib.hid (HB.out.trans (hb1.mono hbs))
        have hbs1 := HB1.out.size
        have HG1 : Hid (RowG w1 gb (gTo l N k)) := RowG.below HG.out hb1
        clear a0 a1 a2 a3 a4 a5 a6 hb1
        obtain ⟨a0, a1, a2, a3, a4, a5, a6⟩ := HROW.out w1 HB1.out
        cases q1
        · go_wp2_with fail
          refine (HR2.out _).mono ?_
          rintro e w2 ⟨rfl, hb2⟩
          have HB3 := Lib.hid (HB1.out.trans (hb2.mono hbs1))
          have hbs2 := HB3.out.size
          have HG2 : Hid (RowG w2 gb (gTo l N k)) := RowG.below HG1.out hb2
          clear a0 a1 a2 a3 a4 a5 a6 hb2
          cases q2
          · have HEB : Hid (r = .error ((k : Int), 5)) := by
              show _ = _
              have hgo : badGo l.length l 0 = some (0 + k) := badGo_hit _ l 0 k X (fun j Y hj hY => by rw [← HN.out]; exact HOK.out j Y hj hY) HX.out (by rw [← HN.out]; exact HQ.out)
              rw [Nat.zero_add] at hgo
              rw [← HRV.out]
              unfold printV
              rw [badV_go, hgo]
              have := HN.out
              rw [if_neg (by omega), if_pos (by dsimp only; omega)]
            go_wp2_with fail
            refine (no_call (k : Int) 5 w2).mono ?_
            rintro e w3 ⟨p, rfl, hp, hf, hb3⟩
            have HF := Lib.hid hf
            have HB4 := Lib.hid (HB3.out.trans (hb3.mono hbs2))
            clear hf hb3
            go_wp2
            go_ret2
            exact RPrinted.err HEB.out (by omega) HF.out HB4.out
          · have HQT : Hid (okV X N = true) := HQ.out
            have HOP := Lib.hid (ofV_place X.op (okV_op HQT.out))
            have HOK2 : Hid (∀ (j : Nat) (Y : Ins), j < k + 1 → l[j]? = some Y → okV Y N = true) := by
              intro j Y hj hY
              by_cases e : j = k
              · subst e; rw [HX.out] at hY; injection hY with hY; rw [← hY]; exact HQT.out
              · exact HOK.out j Y (by omega) hY
            obtain ⟨a0, a1, a2, a3, a4, a5, a6⟩ := HROW.out w2 HB3.out
            go_wp2_with fail
            refine (of_any X.op _).mono ?_
            rintro e w5 ⟨rfl, hb5⟩
            have HB5 := Lib.hid (HB3.out.trans (hb5.mono HB3.out.size))
            have HG5 : Hid (RowG w5 gb (gTo l N k)) := RowG.below HG2.out hb5
            clear a0 a1 a2 a3 a4 a5 a6 hb5
            obtain ⟨O, hO⟩ : ∃ O, ofV X.op = O := ⟨_, rfl⟩
            rw [hO] at HOP ⊢
            clear hO
            obtain ⟨oA, oB, oC, oV, nB, nC, oP, oI⟩ := O
            have hfd := field_placeR oA oB oC oV nB nC oP oI
            unfold of8
            cases hj : isJ X.op
            · have hP : oP = false := HOP.out.trans hj
              subst hP
              have HY := Lib.hid (gTo_no l N k X HX.out hj)
              clear hj HOP
              go_wp2
              go_roundw
              case rel => exact ⟨k + 1, by go_num, by omega, by rw [← HY.out]; exact HG5.out, HB5.out, HOK2.out⟩
              case measure => simp [intOf]; omega
            · have hP : oP = true := HOP.out.trans hj
              subst hP
              have hgd : Good X N := may_of (okV_may HQT.out) HVX.out N rfl
              obtain ⟨hv0, hv1⟩ := hgd.jump hj
              obtain ⟨vn, hvn⟩ := Int.eq_ofNat_of_zero_le hv0
              have HY := Lib.hid (gTo_yes l N k X HX.out hj vn hvn)
              have htn : X.v.toNat = vn := by omega
              have HTN := Lib.hid htn
              have hgc : ∃ b, w5.cell? ⟨gb, X.v.toNat, none⟩ = some (.bool b) := by
                refine ⟨_, HG5.out.cell (b := goalV (l.take k) X.v.toNat) ?_⟩
                unfold gTo; rw [List.getElem?_map, List.getElem?_range (by omega)]; rfl
              obtain ⟨bo, hbo⟩ := hgc
              have hfo : w5.frozen? ⟨gb, X.v.toNat, none⟩ = false := rowFree HG5.out
              obtain ⟨a0, a1, a2, a3, a4, a5, a6⟩ := HROW.out w5 HB5.out
              clear hvn htn hj HOP hgd
              go_wp2
              go_roundw
              case rel => exact ⟨k + 1, by go_num, by omega, by rw [← HY.out, ← HTN.out]; exact RowG.set HG5.out _ _, HB5.out.setCell (by simpa using hgB) _, HOK2.out⟩
              case measure => simp [intOf]; omega
        · have HQT : Hid (okV X N = true) := HQ.out
          have HOP := Lib.hid (ofV_place X.op (okV_op HQT.out))
          have HOK2 : Hid (∀ (j : Nat) (Y : Ins), j < k + 1 → l[j]? = some Y → okV Y N = true) := by
            intro j Y hj hY
            by_cases e : j = k
            · subst e; rw [HX.out] at hY; injection hY with hY; rw [← hY]; exact HQT.out
            · exact HOK.out j Y (by omega) hY
          obtain ⟨a0, a1, a2, a3, a4, a5, a6⟩ := HROW.out w1 HB1.out
          go_wp2_with fail
          refine (of_any X.op _).mono ?_
          rintro e w5 ⟨rfl, hb5⟩
          have HB5 := Lib.hid (HB1.out.trans (hb5.mono HB1.out.size))
          have HG5 : Hid (RowG w5 gb (gTo l N k)) := RowG.below HG1.out hb5
          clear a0 a1 a2 a3 a4 a5 a6 hb5
          obtain ⟨O, hO⟩ : ∃ O, ofV X.op = O := ⟨_, rfl⟩
          rw [hO] at HOP ⊢
          clear hO
          obtain ⟨oA, oB, oC, oV, nB, nC, oP, oI⟩ := O
          have hfd := field_placeR oA oB oC oV nB nC oP oI
          unfold of8
          cases hj : isJ X.op
          · have hP : oP = false := HOP.out.trans hj
            subst hP
            have HY := Lib.hid (gTo_no l N k X HX.out hj)
            clear hj HOP
            go_wp2
            go_roundw
            case rel => exact ⟨k + 1, by go_num, by omega, by rw [← HY.out]; exact HG5.out, HB5.out, HOK2.out⟩
            case measure => simp [intOf]; omega
          · have hP : oP = true := HOP.out.trans hj
            subst hP
            have hgd : Good X N := may_of (okV_may HQT.out) HVX.out N rfl
            obtain ⟨hv0, hv1⟩ := hgd.jump hj
            obtain ⟨vn, hvn⟩ := Int.eq_ofNat_of_zero_le hv0
            have HY := Lib.hid (gTo_yes l N k X HX.out hj vn hvn)
            have htn : X.v.toNat = vn := by omega
            have HTN := Lib.hid htn
            have hgc : ∃ b, w5.cell? ⟨gb, X.v.toNat, none⟩ = some (.bool b) := by
              refine ⟨_, HG5.out.cell (b := goalV (l.take k) X.v.toNat) ?_⟩
              unfold gTo; rw [List.getElem?_map, List.getElem?_range (by omega)]; rfl
            obtain ⟨bo, hbo⟩ := hgc
            have hfo : w5.frozen? ⟨gb, X.v.toNat, none⟩ = false := rowFree HG5.out
            obtain ⟨a0, a1, a2, a3, a4, a5, a6⟩ := HROW.out w5 HB5.out
            clear hvn htn hj HOP hgd
            go_wp2
            go_roundw
            case rel => exact ⟨k + 1, by go_num, by omega, by rw [← HY.out, ← HTN.out]; exact RowG.set HG5.out _ _, HB5.out.setCell (by simpa using hgB) _, HOK2.out⟩
            case measure => simp [intOf]; omega
      · obtain rfl : k = N := by omega
        have hk3 : ¬ (k : Int) < (k : Int) := by omega
        clear hb hg
        have HOK2 : Hid (∀ (j : Nat) (Y : Ins), l[j]? = some Y → okV Y k = true) := fun j Y hY => HOK.out j Y (by rw [HN.out]; exact (List.getElem?_eq_some_iff.1 hY).1) hY
        go_wp2
        go_meet
        exact ⟨HG.out, HB.out, HOK2.out⟩
  case rest =>
    obtain ⟨hg, hb, HOK⟩ := hcut
    have HB := Lib.hid hb
    have HG := Lib.hid hg
    have hbs := hb.size
    have hgbl : gb < wc.heap.size := (Array.getElem?_eq_some_iff.1 hg).1
    have HE : Hid (r = .ok (ofL (linesTo l N))) := by
      show _ = _
      have hgo : badGo l.length l 0 = none := badGo_at _ l 0 (fun j Y hY => by rw [← HN.out]; exact HOK.out j Y hY)
      rw [← HRV.out]
      unfold printV
      rw [badV_go, hgo]
      have := HN.out
      rw [if_neg (by omega), if_neg (by dsimp only; omega), ← HN.out]; rfl
    clear hg hb HB2 HW0
    go_wp2_with fail
    obtain ⟨wo, rfl⟩ : ∃ wo : World, wo = wc := ⟨_, rfl⟩
    go_loopw [6, 7] (fun v s wz => ∃ (j : Nat) (acc : ByteArray), s = .int .i64 j ∧ j ≤ N ∧ v = .string acc ∧ Hid (acc = ofL (linesTo l j)) ∧ acc.size ≤ 413 * j ∧ Below wo.heap.size wo wz) (fun _ s _ => N - (intOf s).toNat)
    case atStart => exact ⟨0, _, rfl, Nat.zero_le _, rfl, rfl, by decide, Below.refl _ _⟩
    case round =>
      obtain ⟨j, acc, rfl, hj, rfl, HAC, hal, hbel⟩ := hrel
      have HBL := Lib.hid hbel
      have HBW := Lib.hid (HB.out.trans (hbel.mono hbs))
      have hbw := HBW.out.size
      have HRG : Hid (RowG wr gb (gTo l N N)) := RowG.below HG.out hbel
      by_cases hjn : j < N
      · have hkl : j < l.length := by rw [← HN.out]; exact hjn
        have hX : l[j]? = some l[j] := List.getElem?_eq_getElem hkl
        obtain ⟨X, hXX⟩ : ∃ X, X = l[j] := ⟨_, rfl⟩
        rw [← hXX] at hX
        have HX := Lib.hid hX
        have HVX := Lib.hid (HV.out X (List.mem_of_getElem? hX))
        have HQT := Lib.hid (HOK.out j X hX)
        obtain ⟨f0, f1, f2, f3, f4, f5, f6⟩ := flatIns_cells l j X hX
        have HROW : Hid (∀ w', Below w.heap.size w w' → w'.cell? ⟨b, o + j * 7, none⟩ = some (.int .i64 X.op) ∧ w'.cell? ⟨b, o + j * 7 + 1, none⟩ = some (.int .i64 X.a) ∧ w'.cell? ⟨b, o + j * 7 + 2, none⟩ = some (.int .i64 X.b) ∧ w'.cell? ⟨b, o + j * 7 + 3, none⟩ = some (.int .i64 X.c) ∧ w'.cell? ⟨b, o + j * 7 + 4, none⟩ = some (.int .u64 X.v) ∧ w'.cell? ⟨b, o + j * 7 + 5, none⟩ = some (.int .i64 X.m) ∧ w'.cell? ⟨b, o + j * 7 + 6, none⟩ = some (.int .i64 X.wh)) := by
          intro w' h
          have e : ∀ i u, (flatIns l)[j * 7 + i]? = some u → w'.cell? ⟨b, o + j * 7 + i, none⟩ = some u := fun i u hu => by
            rw [Nat.add_assoc]; exact (below_cell h hbl).trans (HC.out _ _ hu)
          exact ⟨e 0 _ f0, e 1 _ f1, e 2 _ f2, e 3 _ f3, e 4 _ f4, e 5 _ f5, e 6 _ f6⟩
        have hk3 : (j : Int) < (N : Int) := by omega
        have hls := insL_sizeR X
        have HLN := Lib.hid (fun w => line32_any X N (okV_op HQT.out) (may_of (okV_may HQT.out) HVX.out N rfl) w)
        obtain ⟨gv, hgv⟩ : ∃ gv, gv = goalV l j := ⟨_, rfl⟩
        have gc : wr.cell? ⟨gb, j, none⟩ = some (.bool gv) := HRG.out.cell (by
          unfold gTo; rw [List.getElem?_map, List.getElem?_range hjn]
          show some (goalV (l.take N) j) = some gv
          rw [hgv, HN.out, List.take_length])
        have HD : Hid (l.getD j zI = X) := by show _ = _; rw [List.getD_eq_getElem?_getD, hX]; rfl
        have HSC : Hid (∀ y : ByteArray, y.data.toList = linesTo l j ++ labL j gv → y ++ (lineB X ++ ⟨#[10]⟩) = ofL (linesTo l (j + 1))) := by
          intro y hy
          rw [linesTo_succ, HD.out, ← hgv, ← lineB_list, ← List.append_assoc, ← hy]
          apply ByteArray.ext; apply Array.ext'; rw [ofL_data]; simp
        have hal2 : acc.size ≤ 845824 := by omega
        have hdj := decB_size j
        obtain ⟨lb, hlb⟩ : ∃ lb, lb = lineB X := ⟨_, rfl⟩
        rw [← hlb] at HSC HLN hls
        clear hXX hX f0 f1 f2 f3 f4 f5 f6 hbel hgv hlb
        go_upto_if 64 with fail
        go_cut [6] (fun v wz => LabOut (linesTo l j ++ labL j gv) (acc.size + 23) v ∧ wr = wz)
        case first =>
          cases gv
          · have HE1 : Hid (acc.data.toList = linesTo l j ++ labL j false) := by show _ = _; rw [HAC.out, ofL_data]; unfold labL; simp
            go_wp2
            go_meet
            exact ⟨⟨_, rfl, HE1.out, by omega⟩, rfl⟩
          · have HE1 : Hid ((acc ++ (⟨#[112]⟩ ++ decB j ++ ⟨#[58, 10]⟩)).data.toList = linesTo l j ++ labL j true) := by
              show _ = _
              rw [HAC.out]; unfold labL decB ofL; simp
            have HE2 : Hid ((acc ++ (⟨#[112]⟩ ++ decB j ++ ⟨#[58, 10]⟩)).size ≤ acc.size + 23) := by
              show _ ≤ _
              have e1 : (⟨#[112]⟩ : ByteArray).size = 1 := rfl
              have e2 : (⟨#[58, 10]⟩ : ByteArray).size = 2 := rfl
              simp only [ByteArray.size_append, e1, e2]
              omega
            go_wp2_with fail
            refine (rprint_any j (by omega) _).mono ?_
            rintro e w' ⟨rfl, rfl⟩
            go_wp2
            go_meet
            exact ⟨⟨_, rfl, HE1.out, HE2.out⟩, rfl⟩
        case rest =>
          obtain ⟨⟨y, rfl, hy, hys⟩, rfl⟩ := hcut
          have HY := Lib.hid hy
          clear hy
          obtain ⟨a0, a1, a2, a3, a4, a5, a6⟩ := HROW.out wr HBW.out
          go_wp2_with fail
          refine (HLN.out _).mono ?_
          rintro e w5 ⟨rfl, hb5⟩
          have HB5 := Lib.hid (HBL.out.trans (hb5.mono HBL.out.size))
          have HNX := Lib.hid (HSC.out y HY.out)
          have HNZ : Hid ((y ++ (lb ++ ⟨#[10]⟩)).size ≤ 413 * (j + 1)) := by
            show _ ≤ _
            have e1 : (⟨#[10]⟩ : ByteArray).size = 1 := rfl
            simp only [ByteArray.size_append, e1]
            omega
          clear a0 a1 a2 a3 a4 a5 a6 hb5 HSC gc
          go_wp2
          go_roundw
          case rel => exact ⟨j + 1, _, by go_num, by omega, rfl, HNX.out, HNZ.out, HB5.out⟩
          case measure => simp [intOf]; omega
      · obtain rfl : j = N := by omega
        have hk3 : ¬ (j : Int) < (j : Int) := by omega
        clear hbel
        go_wp2
        go_ret2
        exact RPrinted.good HE.out HAC.out HBW.out
end Go.Proofs.YtnoejikcdigceaaDoor
