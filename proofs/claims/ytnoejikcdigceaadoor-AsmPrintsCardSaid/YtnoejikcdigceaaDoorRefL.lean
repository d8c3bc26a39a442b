/- distaffref05.line: contract. -/
import Derived.Test.YtnoejikcdigceaaDoorRefP
import Derived.Test.YtnoejikcdigceaaDoorGBack
import Derived.Deep.DeepCutAuto
import Derived.IntWalk
set_option linter.unusedVariables false
set_option linter.unusedSimpArgs false
namespace Go.Proofs.YtnoejikcdigceaaDoor
open Go.RowKit
/-- An instruction's line, k operands of it. -/
def sB (X : Ins) (K : Int × Int × Int) : Nat → ByteArray
  | 0 => nameOf X.op
  | k + 1 => sB X K k ++ ⟨#[32]⟩ ++ shownV X (kindAt K k)
theorem sB_size (X : Ins) (K : Int × Int × Int) : ∀ k, (sB X K k).size ≤ 227 + 46 * k
  | 0 => nameOf_size _
  | k + 1 => by
    have ih := sB_size X K k
    have h := shownV_size X (kindAt K k)
    have e : (⟨#[32]⟩ : ByteArray).size = 1 := rfl
    unfold sB
    simp only [ByteArray.size_append, e]
    omega
theorem sB_list (X : Ins) (K : Int × Int × Int) : ∀ k, (sB X K k).data.toList = (nameOf X.op).data.toList ++ opsL X K k
  | 0 => by simp [sB, opsL]
  | k + 1 => by
    unfold sB opsL
    simp [sB_list X K k]
theorem sB_succ (X : Ins) (K : Int × Int × Int) (k : Nat) (y s : ByteArray) (hy : sB X K k = y) (hs : shownV X (kindAt K k) = s) : sB X K (k + 1) = y ++ ⟨#[32]⟩ ++ s := by
  subst hy; subst hs; rfl
/-- A line, its mark behind it. -/
def lineB (X : Ins) : ByteArray := sB X (opndsV X.op) (cntV (opndsV X.op)) ++ markedV X
theorem lineB_list (X : Ins) : (lineB X).data.toList ++ [10] = insL X := by
  unfold lineB insL
  simp [sB_list]
theorem qprint (n : Int) (h0 : 0 ≤ n) (h1 : n ≤ 18446744073709551615) (w : World) : Calls Tryd.prog 31 #[.int .u64 n] w (fun e w' => e = .returned (.string (decB n.toNat)) ∧ w' = w) := by
  obtain ⟨m, rfl⟩ := Int.eq_ofNat_of_zero_le h0
  exact (rprint_any m (by omega) w).mono fun _ _ ⟨a, b⟩ => ⟨a, b.symm⟩
theorem qreg (n : Int) (h0 : 0 ≤ n) (h1 : n ≤ 31) (w : World) : Calls Tryd.prog 51 #[.int .i64 n] w (fun e w' => e = .returned (.string (regS n)) ∧ w' = w) :=
  (rreg5_any n h0 h1 w).mono fun _ _ ⟨a, b⟩ => ⟨a, b.symm⟩
def refArr : Array Value := (refNames.map Value.string).toArray
theorem refArr_at (i : Nat) (hi : i < 58) : refArr[i]? = some (.string (nameOf ((i : Int) + 1))) := by
  unfold refArr
  rw [List.getElem?_toArray, List.getElem?_map, refNames_at' ⟨i, hi⟩]; rfl
set_option maxRecDepth 100000 in
set_option maxHeartbeats 4000000 in
theorem rnames_eq (w : World) : Calls Tryd.prog 49 #[] w fun e w' => e = .returned (.slice (some ⟨w.heap.size, 0, none⟩) 58 58) ∧ w' = w.alloc (.cells refArr 9) := by
  have h : refArr = (refNames.map Value.string).toArray := rfl
  rw [h]
  have h2 : (refNames.map Value.string).toArray = #[Value.string ⟨#[115, 101, 116]⟩, Value.string ⟨#[109, 111, 118]⟩, Value.string ⟨#[97, 100, 100]⟩, Value.string ⟨#[115, 117, 98]⟩, Value.string ⟨#[97, 110, 100]⟩, Value.string ⟨#[111, 114]⟩, Value.string ⟨#[120, 111, 114]⟩, Value.string ⟨#[115, 104, 108]⟩, Value.string ⟨#[115, 104, 114]⟩, Value.string ⟨#[101, 113]⟩, Value.string ⟨#[108, 116]⟩, Value.string ⟨#[106, 109, 112]⟩, Value.string ⟨#[106, 122]⟩, Value.string ⟨#[106, 110, 122]⟩, Value.string ⟨#[106, 115, 114]⟩, Value.string ⟨#[114, 101, 116]⟩, Value.string ⟨#[108, 100]⟩, Value.string ⟨#[115, 116]⟩, Value.string ⟨#[115, 119, 112]⟩, Value.string ⟨#[102, 97, 100]⟩, Value.string ⟨#[99, 97, 115]⟩, Value.string ⟨#[99, 97, 108, 108]⟩, Value.string ⟨#[104, 115, 104]⟩, Value.string ⟨#[113, 112, 116]⟩, Value.string ⟨#[113, 116, 107]⟩, Value.string ⟨#[113, 109, 118]⟩, Value.string ⟨#[113, 104, 115]⟩, Value.string ⟨#[115, 108, 112]⟩, Value.string ⟨#[104, 110, 100]⟩, Value.string ⟨#[112, 105, 107]⟩, Value.string ⟨#[108, 97, 121]⟩, Value.string ⟨#[116, 97, 107]⟩, Value.string ⟨#[105, 110, 106]⟩, Value.string ⟨#[105, 106, 116]⟩, Value.string ⟨#[114, 117, 110]⟩, Value.string ⟨#[112, 114, 107]⟩, Value.string ⟨#[115, 108, 102]⟩, Value.string ⟨#[119, 114, 107]⟩, Value.string ⟨#[119, 107, 100]⟩, Value.string ⟨#[119, 107, 110]⟩, Value.string ⟨#[110, 111, 119]⟩, Value.string ⟨#[100, 114, 119]⟩, Value.string ⟨#[103, 101, 116]⟩, Value.string ⟨#[102, 114, 101]⟩, Value.string ⟨#[111, 98, 106]⟩, Value.string ⟨#[100, 101, 108]⟩, Value.string ⟨#[99, 107, 112]⟩, Value.string ⟨#[116, 110, 119]⟩, Value.string ⟨#[116, 115, 116]⟩, Value.string ⟨#[116, 104, 109]⟩, Value.string ⟨#[116, 106, 110]⟩, Value.string ⟨#[116, 100, 116]⟩, Value.string ⟨#[116, 101, 120]⟩, Value.string ⟨#[116, 114, 112]⟩, Value.string ⟨#[101, 110, 100]⟩, Value.string ⟨#[121, 108, 100]⟩, Value.string ⟨#[99, 98, 107]⟩, Value.string ⟨#[102, 105, 110]⟩] := rfl
  rw [h2]
  clear h h2
  go_enter Tryd.func49, Tryd.ntmps49
  go_wp2
  go_ret
  exact ⟨rfl, rfl⟩
set_option maxRecDepth 100000 in
set_option maxHeartbeats 32000000 in
theorem line32_any (X : Ins) (n : Nat) (hop : 1 ≤ X.op ∧ X.op ≤ 58) (hg : Good X n) (w : World) : Calls Tryd.prog 32 #[insAgg X] w (RetSN (lineB X) w) := by
  have HG := Lib.hid hg
  have HOP := Lib.hid hop
  obtain ⟨j, hj, hj58⟩ : ∃ j : Nat, X.op = (j : Int) + 1 ∧ j < 58 := ⟨(X.op - 1).toNat, by omega, by omega⟩
  have HJ := Lib.hid hj
  have HOPN := Lib.hid (fun w => ropnds_any X.op w)
  have HNM := Lib.hid (fun w => rnames_eq w)
  rw [refOs_eq X.op hop] at HOPN
  obtain ⟨res, hres⟩ : ∃ res, lineB X = res := ⟨_, rfl⟩
  have HRES := Lib.hid hres
  rw [hres]
  clear hg hop hj hres
  unfold insAgg insCells
  go_enter Tryd.func32, Tryd.ntmps32
  go_wp2_with fail
  obtain ⟨B, hB⟩ : ∃ B, B = w.heap.size := ⟨_, rfl⟩
  obtain ⟨W1, hW1⟩ : ∃ W1, W1 = w.alloc (.cells #[.int .i64 X.op, .int .i64 X.a, .int .i64 X.b, .int .i64 X.c, .int .u64 X.v, .int .i64 X.m, .int .i64 X.wh] 37) := ⟨_, rfl⟩
  rw [← hW1, ← hB]
  have hBx : W1.heap[B]? = some (.cells #[.int .i64 X.op, .int .i64 X.a, .int .i64 X.b, .int .i64 X.c, .int .u64 X.v, .int .i64 X.m, .int .i64 X.wh] 37 (0, 0)) := by rw [hW1, hB]; exact heap_alloc_at
  have HBX := Lib.hid hBx
  have HBW : Hid (Below w.heap.size w W1) := by show Below _ _ _; rw [hW1]; exact (Below.refl _ _).alloc (Nat.le_refl _) _
  have hlt : B < W1.heap.size := (Array.getElem?_eq_some_iff.1 hBx).1
  have hwB : w.heap.size ≤ B := by omega
  have z0 : W1.cell? ⟨B, 0, none⟩ = some (.int .i64 ((j : Int) + 1)) := by rw [← HJ.out]; exact rowCell hBx
  clear hBx hW1 hB
  have s1 : IntKind.i64.wrap ((j : Int) + 1 - 1) = (j : Int) := by rw [IntWalk.i64_in _ (by omega)]; omega
  have hA := refArr_at j hj58
  have s2 : IntKind.i64.wrap (j : Int) = (j : Int) := IntWalk.i64_in _ (by omega)
  have s3 : (0 : Int) ≤ (j : Int) := by omega
  have s4 : (j : Int) < 58 := by omega
  go_cut [3] (fun s wz => s = .string (nameOf ((j : Int) + 1)) ∧ Below W1.heap.size W1 wz)
  case first => as_aux_lemma =>
    go_region_with (first | (go_at_call 49; refine (HNM.out _).mono ?_; rintro e w2 ⟨rfl, rfl⟩))
    all_goals
      go_wp2
      go_meet
      exact ⟨rfl, ((Below.refl _ _).alloc (Nat.le_refl _) _).drew⟩
  case rest =>
    obtain ⟨rfl, hbc⟩ := hcut
    have HBC := Lib.hid hbc
    have hcs := hbc.size
    clear z0 s1 s2 s3 s4 hA hbc
    have HXC : Hid (wc.heap[B]? = some (.cells #[.int .i64 X.op, .int .i64 X.a, .int .i64 X.b, .int .i64 X.c, .int .u64 X.v, .int .i64 X.m, .int .i64 X.wh] 37 (0, 0))) := by
      show _ = _; rw [HBC.out.block B hlt]; exact HBX.out
    have z0 : wc.cell? ⟨B, 0, none⟩ = some (.int .i64 X.op) := rowCell HXC.out
    go_wp2_with fail
    refine (HOPN.out _).mono ?_
    rintro e w3 ⟨v, rfl, hown, hb3⟩
    have HB3 := Lib.hid (HBC.out.trans (hb3.mono hcs))
    obtain ⟨K, hK⟩ : ∃ K, opndsV X.op = K := ⟨_, rfl⟩
    obtain ⟨N, hN⟩ : ∃ N, cntV K = N := ⟨_, rfl⟩
    have hN3 : N ≤ 3 := by rw [← hN]; exact cntV_le K
    have hrl : (refKs X.op).length = N := by unfold refKs; rw [hK, hN]; simp
    rw [hrl] at hown
    obtain ⟨av, cv, rfl⟩ := owns_slice hown
    have HROW : Hid (∀ k, k < N → ∃ g, av = some ⟨g, 0, none⟩ ∧ N ≤ cv ∧ wc.heap.size ≤ g ∧ g < w3.heap.size ∧ w3.cell? ⟨g, k, none⟩ = some (.int .i64 (refKd (kindAt K k)))) := by
      intro k hk
      obtain ⟨g, c', hs⟩ := owns_some hown (by omega)
      injection hs with h1 h2 h3
      subst h1; subst h3
      obtain ⟨_, _, hcc, _⟩ := owns_block hown
      refine ⟨g, rfl, hcc, (hown.lt g rfl).1, (hown.lt g rfl).2, owns_cell hown ?_⟩
      unfold refKs
      rw [hK, hN, List.getElem?_map, List.getElem?_map, List.getElem?_range hk]
      rfl
    have HKD : Hid (∀ k, k < N → (1 ≤ kindAt K k ∧ kindAt K k ≤ 9) ∧ ShowOk X (kindAt K k)) := by
      intro k hk
      refine ⟨kindAt_bd (by rw [hN]; exact hk) hK, ?_⟩
      have := HG.out.opnd k (by rw [hK, hN]; exact hk)
      rw [hK] at this; exact this
    have HS0 : Hid (sB X K 0 = nameOf ((j : Int) + 1)) := by show nameOf X.op = _; rw [HJ.out]
    have HFIN : Hid (res = sB X K N ++ markedV X) := by
      show _ = _; rw [← HRES.out]; unfold lineB; rw [hK, hN]
    have HX3 : Hid (w3.heap[B]? = some (.cells #[.int .i64 X.op, .int .i64 X.a, .int .i64 X.b, .int .i64 X.c, .int .u64 X.v, .int .i64 X.m, .int .i64 X.wh] 37 (0, 0))) := by
      show _ = _; rw [hb3.block B (by omega)]; exact HXC.out
    have hz3 := hb3.size
    clear hK hN hrl hown z0 hb3
    go_upto_block 0 with fail
    go_cut [3] (fun s wz => s = .string (sB X K N) ∧ Below w3.heap.size w3 wz)
    case first =>
      go_wp2_with fail
      go_loopw [3, 5] (fun s i wz => ∃ k : Nat, k ≤ N ∧ i = .int .i64 k ∧ s = .string (sB X K k) ∧ Below w3.heap.size w3 wz) (fun _ i _ => N - (intOf i).toNat)
      case atStart => exact ⟨0, by omega, rfl, by rw [HS0.out], Below.refl _ _⟩
      case round =>
        obtain ⟨k, hk, rfl, rfl, hbel⟩ := hrel
        have HBL := Lib.hid hbel
        by_cases hkn : k < N
        · obtain ⟨g, rfl, hcv, hg1, hg2, hcell⟩ := HROW.out k hkn
          replace hcell := (below_cellP hbel hg2).trans hcell
          obtain ⟨hkd, hok⟩ := HKD.out k hkn
          have HOK := Lib.hid hok
          have hyz := sB_size X K k
          obtain ⟨y, hy⟩ : ∃ y, sB X K k = y := ⟨_, rfl⟩
          have HSU : Hid (∀ s, shownV X (kindAt K k) = s → sB X K (k + 1) = y ++ ⟨#[32]⟩ ++ s) := fun s hs => sB_succ X K k y s hy hs
          rw [hy] at hyz ⊢
          have x1 : wr.cell? ⟨B, 1, none⟩ = some (.int .i64 X.a) := (below_cellP hbel (by omega)).trans (rowCell HX3.out)
          have x2 : wr.cell? ⟨B, 2, none⟩ = some (.int .i64 X.b) := (below_cellP hbel (by omega)).trans (rowCell HX3.out)
          have x3 : wr.cell? ⟨B, 3, none⟩ = some (.int .i64 X.c) := (below_cellP hbel (by omega)).trans (rowCell HX3.out)
          have x4 : wr.cell? ⟨B, 4, none⟩ = some (.int .u64 X.v) := (below_cellP hbel (by omega)).trans (rowCell HX3.out)
          have hds := decB_size X.v.toNat
          have hra := regS_size X.a
          have hrb := regS_size X.b
          have hrc := regS_size X.c
          have HV := Lib.hid (fun w => qprint X.v hok.v.1 hok.v.2 w)
          have hk3 : (k : Int) < (N : Int) := by omega
          clear hy hok hbel
          generalize kindAt K k = kd at *
          have hcs : kd = 1 ∨ kd = 2 ∨ kd = 3 ∨ kd = 4 ∨ kd = 5 ∨ kd = 6 ∨ kd = 7 ∨ kd = 8 ∨ kd = 9 := by omega
          clear hkd
          rcases hcs with rfl | rfl | rfl | rfl | rfl | rfl | rfl | rfl | rfl
          · as_aux_lemma =>
            have hcell : wr.cell? ⟨g, k, none⟩ = some (.int .i64 0) := hcell
            have HE := Lib.hid (HSU.out _ rfl)
            have HR := Lib.hid (fun w => qreg X.a (HOK.out.a rfl).1 (HOK.out.a rfl).2 w)
            go_wp2_with fail
            refine (HR.out _).mono ?_
            rintro e w' ⟨rfl, rfl⟩
            go_wp2
            go_roundw
            case rel => exact ⟨k + 1, by omega, by go_num, by rw [HE.out]; rfl, HBL.out⟩
            case measure => simp [intOf]; omega
          · as_aux_lemma =>
            have hcell : wr.cell? ⟨g, k, none⟩ = some (.int .i64 1) := hcell
            have HE := Lib.hid (HSU.out (regS X.b) rfl)
            have HR := Lib.hid (fun w => qreg X.b (HOK.out.b (.inl rfl)).1 (HOK.out.b (.inl rfl)).2 w)
            go_wp2_with fail
            refine (HR.out _).mono ?_
            rintro e w' ⟨rfl, rfl⟩
            go_wp2
            go_roundw
            case rel => exact ⟨k + 1, by omega, by go_num, by rw [HE.out], HBL.out⟩
            case measure => simp [intOf]; omega
          · as_aux_lemma =>
            have hcell : wr.cell? ⟨g, k, none⟩ = some (.int .i64 2) := hcell
            have HE := Lib.hid (HSU.out (regS X.c) rfl)
            have HR := Lib.hid (fun w => qreg X.c (HOK.out.c (.inl rfl)).1 (HOK.out.c (.inl rfl)).2 w)
            go_wp2_with fail
            refine (HR.out _).mono ?_
            rintro e w' ⟨rfl, rfl⟩
            go_wp2
            go_roundw
            case rel => exact ⟨k + 1, by omega, by go_num, by rw [HE.out], HBL.out⟩
            case measure => simp [intOf]; omega
          · as_aux_lemma =>
            have hcell : wr.cell? ⟨g, k, none⟩ = some (.int .i64 4) := hcell
            by_cases h : X.c = -1
            · have HE := Lib.hid (HSU.out (decB X.v.toNat) (by unfold shownV; simp [h]))
              have hng : ¬ 0 ≤ X.c := by omega
              clear h
              go_wp2_with fail
              refine (HV.out _).mono ?_
              rintro e w' ⟨rfl, rfl⟩
              go_wp2
              go_roundw
              case rel => exact ⟨k + 1, by omega, by go_num, by rw [HE.out], HBL.out⟩
              case measure => simp [intOf]; omega
            · have HE := Lib.hid (HSU.out (regS X.c) (by unfold shownV; simp [h]))
              have hR := HOK.out.c (.inr ⟨rfl, h⟩)
              have hng : 0 ≤ X.c := hR.1
              have HR := Lib.hid (fun w => qreg X.c hR.1 hR.2 w)
              clear h hR
              go_wp2_with fail
              refine (HR.out _).mono ?_
              rintro e w' ⟨rfl, rfl⟩
              go_wp2
              go_roundw
              case rel => exact ⟨k + 1, by omega, by go_num, by rw [HE.out], HBL.out⟩
              case measure => simp [intOf]; omega
          · as_aux_lemma =>
            have hcell : wr.cell? ⟨g, k, none⟩ = some (.int .i64 3) := hcell
            by_cases h : X.b = -1
            · have HE := Lib.hid (HSU.out (decB X.v.toNat) (by unfold shownV; simp [h]))
              have hng : ¬ 0 ≤ X.b := by omega
              clear h
              go_wp2_with fail
              refine (HV.out _).mono ?_
              rintro e w' ⟨rfl, rfl⟩
              go_wp2
              go_roundw
              case rel => exact ⟨k + 1, by omega, by go_num, by rw [HE.out], HBL.out⟩
              case measure => simp [intOf]; omega
            · have HE := Lib.hid (HSU.out (regS X.b) (by unfold shownV; simp [h]))
              have hR := HOK.out.b (.inr (.inl ⟨rfl, h⟩))
              have hng : 0 ≤ X.b := hR.1
              have HR := Lib.hid (fun w => qreg X.b hR.1 hR.2 w)
              clear h hR
              go_wp2_with fail
              refine (HR.out _).mono ?_
              rintro e w' ⟨rfl, rfl⟩
              go_wp2
              go_roundw
              case rel => exact ⟨k + 1, by omega, by go_num, by rw [HE.out], HBL.out⟩
              case measure => simp [intOf]; omega
          · as_aux_lemma =>
            have hcell : wr.cell? ⟨g, k, none⟩ = some (.int .i64 5) := hcell
            by_cases h : X.b = -1
            · have HE := Lib.hid (HSU.out (⟨#[91]⟩ ++ decB X.v.toNat ++ ⟨#[93]⟩) (by unfold shownV; simp [h]))
              have hng : X.b < 0 := by omega
              clear h
              go_wp2_with fail
              refine (HV.out _).mono ?_
              rintro e w' ⟨rfl, rfl⟩
              go_wp2
              go_roundw
              case rel => exact ⟨k + 1, by omega, by go_num, by rw [HE.out], HBL.out⟩
              case measure => simp [intOf]; omega
            · have hR := HOK.out.b (.inr (.inr ⟨rfl, h⟩))
              have hng : ¬ X.b < 0 := by omega
              have HR := Lib.hid (fun w => qreg X.b hR.1 hR.2 w)
              by_cases hv : X.v = 0
              · have HE := Lib.hid (HSU.out (⟨#[91]⟩ ++ regS X.b ++ ⟨#[93]⟩) (by unfold shownV; simp [h, hv]))
                have hv1 : (X.v == 0) = true := by rw [beq_iff_eq]; exact hv
                clear h hR hv
                go_wp2_with fail
                refine (HR.out _).mono ?_
                rintro e w' ⟨rfl, rfl⟩
                go_wp2
                go_roundw
                case rel => exact ⟨k + 1, by omega, by go_num, by rw [HE.out], HBL.out⟩
                case measure => simp [intOf]; omega
              · have HE := Lib.hid (HSU.out (⟨#[91]⟩ ++ regS X.b ++ ⟨#[43]⟩ ++ decB X.v.toNat ++ ⟨#[93]⟩) (by unfold shownV; simp [h, hv]))
                have hv1 : (X.v == 0) = false := by rw [beq_eq_false_iff_ne]; exact hv
                clear h hR hv
                go_wp2_with fail
                have hc1 := fun W => run_string_add_sum (P := Tryd.prog) (w := W) ⟨#[91]⟩ (regS X.b) (by show 1 + _ ≤ _; omega)
                have hc2 := fun W => run_string_add_sum (P := Tryd.prog) (w := W) (⟨#[91]⟩ ++ regS X.b) ⟨#[43]⟩ (by rw [ByteArray.size_append]; show 1 + _ + 1 ≤ _; omega)
                have hc3 := fun W => run_string_add_sum (P := Tryd.prog) (w := W) (⟨#[91]⟩ ++ regS X.b ++ ⟨#[43]⟩) (decB X.v.toNat) (by rw [ByteArray.size_append, ByteArray.size_append]; show 1 + _ + 1 + _ ≤ _; omega)
                have hc4 := fun W => run_string_add_sum (P := Tryd.prog) (w := W) (⟨#[91]⟩ ++ regS X.b ++ ⟨#[43]⟩ ++ decB X.v.toNat) ⟨#[93]⟩ (by rw [ByteArray.size_append, ByteArray.size_append, ByteArray.size_append]; show 1 + _ + 1 + _ + 1 ≤ _; omega)
                have hc5 := fun W => run_string_add_sum (P := Tryd.prog) (w := W) (y ++ ⟨#[32]⟩) (⟨#[91]⟩ ++ regS X.b ++ ⟨#[43]⟩ ++ decB X.v.toNat ++ ⟨#[93]⟩) (by rw [ByteArray.size_append, ByteArray.size_append, ByteArray.size_append, ByteArray.size_append, ByteArray.size_append]; show _ + 1 + (1 + _ + 1 + _ + 1) ≤ _; omega)
                go_quiet ((first | (go_at_call 51; exact Calls.quiet_of_same (HR.out _)) | (go_at_call 31; exact Calls.quiet_of_same (HV.out _))))
                clear hc1 hc2 hc3 hc4 hc5
                go_wp2
                go_roundw
                case rel => exact ⟨k + 1, by omega, by go_num, by rw [HE.out], below_drewN HBL.out _⟩
                case measure => simp [intOf]; omega
          · as_aux_lemma =>
            have hcell : wr.cell? ⟨g, k, none⟩ = some (.int .i64 7) := hcell
            have HE := Lib.hid (HSU.out (decB X.v.toNat) rfl)
            go_wp2_with fail
            refine (HV.out _).mono ?_
            rintro e w' ⟨rfl, rfl⟩
            go_wp2
            go_roundw
            case rel => exact ⟨k + 1, by omega, by go_num, by rw [HE.out], HBL.out⟩
            case measure => simp [intOf]; omega
          · as_aux_lemma =>
            have hcell : wr.cell? ⟨g, k, none⟩ = some (.int .i64 6) := hcell
            have HE := Lib.hid (HSU.out (⟨#[112]⟩ ++ decB X.v.toNat) rfl)
            go_wp2_with fail
            refine (HV.out _).mono ?_
            rintro e w' ⟨rfl, rfl⟩
            go_wp2
            go_roundw
            case rel => exact ⟨k + 1, by omega, by go_num, by rw [HE.out], HBL.out⟩
            case measure => simp [intOf]; omega
          · as_aux_lemma =>
            have hcell : wr.cell? ⟨g, k, none⟩ = some (.int .i64 8) := hcell
            have HE := Lib.hid (HSU.out (decB X.v.toNat) rfl)
            go_wp2_with fail
            refine (HV.out _).mono ?_
            rintro e w' ⟨rfl, rfl⟩
            go_wp2
            go_roundw
            case rel => exact ⟨k + 1, by omega, by go_num, by rw [HE.out], HBL.out⟩
            case measure => simp [intOf]; omega
        · as_aux_lemma =>
          obtain rfl : k = N := by omega
          have hk3 : ¬ (k : Int) < (k : Int) := by omega
          clear hbel
          go_wp2
          go_meet
          first | exact ⟨rfl, HBL.out⟩ | exact ⟨rfl, HBL.out, rfl⟩
    case rest =>
      obtain ⟨rfl, hbel⟩ := hcut
      have HBL := Lib.hid hbel
      have HBB : Hid (Below w.heap.size w wc) := HBW.out.trans ((HB3.out.trans (hbel.mono (by omega))).mono (by omega))
      have hm := HG.out.m
      have hwh := HG.out.wh
      have hyz := sB_size X K N
      obtain ⟨y, hy⟩ : ∃ y, sB X K N = y := ⟨_, rfl⟩
      rw [hy] at HFIN hyz ⊢
      have x5 : wc.cell? ⟨B, 5, none⟩ = some (.int .i64 X.m) := (below_cellP hbel (by omega)).trans (rowCell HX3.out)
      have x6 : wc.cell? ⟨B, 6, none⟩ = some (.int .i64 X.wh) := (below_cellP hbel (by omega)).trans (rowCell HX3.out)
      clear hy hbel
      by_cases hm0 : X.m = 0
      · as_aux_lemma =>
        have HE : Hid (res = y) := by
          show _ = _; rw [HFIN.out]; unfold markedV; rw [if_pos hm0]; apply ByteArray.ext; simp
        have hmm : ¬ 0 < X.m := by omega
        clear hm0
        go_wp2
        go_ret
        exact RetSN.mk HE.out HBB.out
      · have hmm : 0 < X.m := by omega
        have HVM := Lib.hid (fun w => qprint X.m (by omega) (by omega) w)
        have hdm := decB_size X.m.toNat
        have hwl : wc.heap.size = wc.heap.size := rfl
        have hBl : B < wc.heap.size := World.block_lt_of_cell? wc _ x5
        have hwi : ∃ q : Nat, X.wh = (q : Int) ∧ q < 3 := ⟨X.wh.toNat, by omega, by omega⟩
        obtain ⟨q, hq, hq3⟩ := hwi
        have hA : (#[.string ⟨#[]⟩, .string ⟨#[61, 48]⟩, .string ⟨#[62, 48]⟩] : Array Value)[q]? = some (.string (whenS X.wh)) := by
          rw [hq]
          have : q = 0 ∨ q = 1 ∨ q = 2 := by omega
          rcases this with rfl | rfl | rfl <;> rfl
        have hwz : (whenS X.wh).size ≤ 2 := by
          rw [hq]
          have : q = 0 ∨ q = 1 ∨ q = 2 := by omega
          rcases this with rfl | rfl | rfl <;> decide
        have hA2 : ∀ h : q < ([.string ⟨#[]⟩, .string ⟨#[61, 48]⟩, .string ⟨#[62, 48]⟩] : List Value).length, ([.string ⟨#[]⟩, .string ⟨#[61, 48]⟩, .string ⟨#[62, 48]⟩] : List Value)[q]'h = .string (whenS X.wh) := by
          rw [hq]
          have : q = 0 ∨ q = 1 ∨ q = 2 := by omega
          rcases this with rfl | rfl | rfl <;> (intro h; rfl)
        have hq4 : (q : Int) < 3 := by omega
        have hq5 : (0 : Int) ≤ (q : Int) := by omega
        have HE : Hid (res = y ++ (⟨#[32, 33]⟩ ++ decB X.m.toNat ++ whenS X.wh)) := by
          show _ = _; rw [HFIN.out]; unfold markedV; rw [if_neg hm0]
        rw [hq] at x6
        obtain ⟨ws, hws⟩ : ∃ ws, whenS X.wh = ws := ⟨_, rfl⟩
        rw [hws] at hA hwz HE
        simp only [hws] at hA2
        clear hm0 hwh hwl hq hws
        go_upto_region 23 with fail
        have hc1 := fun W => run_string_add_sum (P := Tryd.prog) (w := W) ⟨#[32, 33]⟩ (decB X.m.toNat) (by show 2 + _ ≤ _; omega)
        have hc2 := fun W => run_string_add_sum (P := Tryd.prog) (w := W) (⟨#[32, 33]⟩ ++ decB X.m.toNat) ws (by rw [ByteArray.size_append]; show 2 + _ + _ ≤ _; omega)
        have hc3 := fun W => run_string_add_sum (P := Tryd.prog) (w := W) y (⟨#[32, 33]⟩ ++ decB X.m.toNat ++ ws) (by rw [ByteArray.size_append, ByteArray.size_append]; show _ + (2 + _ + _) ≤ _; omega)
        have s1 : IntKind.u64.wrap X.m = X.m := IntWalk.u64_in _ (by omega)
        go_cut [3] (fun s wz => s = .string res ∧ Below wc.heap.size wc wz)
        case first => as_aux_lemma =>
          go_region_with (first | (go_at_call 31; ((with_reducible refine (HVM.out _).mono ?_); rintro e w' ⟨rfl, rfl⟩)))
          all_goals
            go_wp2
            go_meet
            refine ⟨congrArg Value.string HE.out.symm, ((Below.refl _ _).alloc (Nat.le_refl _) _).drew⟩
        case rest => as_aux_lemma =>
          obtain ⟨rfl, hb9⟩ := hcut
          have HB9 := Lib.hid (HBB.out.trans (hb9.mono HBB.out.size))
          clear hb9 hc1 hc2 hc3 s1
          go_wp2
          go_ret
          exact RetSN.mk rfl HB9.out
end Go.Proofs.YtnoejikcdigceaaDoor
