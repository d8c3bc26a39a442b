/- code.fail, code.Check, distaffkeep.CopyCode: contracts. -/
import Derived.Test.YtnoejikcdigceaaDoorPrintB
import Derived.Test.YtnoejikcdigceaaDoorGKeep
import Derived.Test.YtnoejikcdigceaaDoorAs
import Derived.Test.YtnoejikcdigceaaDoorMix
set_option linter.unusedVariables false
set_option linter.unusedSimpArgs false
namespace Go.Proofs.YtnoejikcdigceaaDoor
open Go.RowKit
theorem cfail_any (n : Int) (t : TypeId) (x : Value) (w : World) :
    Calls Tryd.prog 64 #[.int .i64 n, .iface t x] w fun e w' =>
      e = .returned (.iface 68 (.pointer (some ⟨w.heap.size, 0, none⟩))) ∧ w.alloc (.cells #[.string ⟨#[99, 111, 100, 101]⟩, .int .i64 n, .iface t x] 72) = w' := by
  go_enter Tryd.func64, Tryd.ntmps64
  go_wp2
  go_ret
  exact ⟨rfl, rfl⟩
/-- A row of instructions, from the head of a block on. -/
structure RowI (w : World) (g : Nat) (l : List Ins) : Prop where
  lt : g < w.heap.size
  cell : ∀ j u, (flatIns l)[j]? = some u → w.cell? ⟨g, j, none⟩ = some u
theorem RowI.below {w w' : World} {g : Nat} {l : List Ins} (h : RowI w g l) (hb : Below w.heap.size w w') : RowI w' g l :=
  ⟨Nat.lt_of_lt_of_le h.lt hb.size, fun j u hj => (below_cellP hb h.lt).trans (h.cell j u hj)⟩
theorem RowI.belowB {w w' : World} {B g : Nat} {l : List Ins} (h : RowI w g l) (hg : g < B) (hb : Below B w w') : RowI w' g l :=
  ⟨Nat.lt_of_lt_of_le h.lt hb.size, fun j u hj => (below_cellP hb hg).trans (h.cell j u hj)⟩
/-- The first instruction that may not be. -/
def badIx (n : Int) (lib : Bool) : List Ins → Nat → Option Nat
  | [], _ => none
  | X :: l, i => if mayV X n lib then badIx n lib l (i + 1) else some i
def CheckOut (r : Option Nat) (w : World) (e : Ending) (w' : World) : Prop :=
  match r with
  | none => e = .returned .nilIface ∧ Below w.heap.size w w'
  | some i => ∃ b, e = .returned (.iface 68 (.pointer (some ⟨b, 0, none⟩))) ∧ w.heap.size ≤ b ∧ w'.heap[b]? = some (.cells #[.string ⟨#[99, 111, 100, 101]⟩, .int .i64 i, .iface 41 (.int .i64 5)] 72 (0, 0)) ∧ Below w.heap.size w w'
set_option maxRecDepth 100000 in
set_option maxHeartbeats 4000000 in
theorem check_any (l : List Ins) (a : Option Addr) (c : Nat) (lib : Bool) (hl : l.length ≤ 2048) (hc : l.length ≤ c) (w : World) (hr : l ≠ [] → ∃ g, a = some ⟨g, 0, none⟩ ∧ RowI w g l) :
    Calls Tryd.prog 44 #[.slice a l.length c, .bool lib] w (CheckOut (badIx l.length lib l 0) w) := by
  have HR := Lib.hid hr
  clear hr
  obtain ⟨N, hN⟩ : ∃ N, N = l.length := ⟨_, rfl⟩
  rw [← hN]
  have HN := Lib.hid hN
  rw [← hN] at hl hc
  have HM := Lib.hid (fun X w => may_any X N (by omega) lib w)
  clear hN
  go_enter Tryd.func44, Tryd.ntmps44
  go_wp2
  go_loopw [14] (fun s wz => ∃ k : Nat, s = .int .i64 k ∧ k ≤ N ∧ Below w.heap.size w wz ∧ Hid (badIx N lib (l.drop k) k = badIx N lib l 0)) (fun s _ => N - (intOf s).toNat)
  case atStart => exact ⟨0, rfl, Nat.zero_le _, Below.refl _ _, rfl⟩
  case round =>
    obtain ⟨k, rfl, hk, hb, HG⟩ := hrel
    have HB := Lib.hid hb
    have hbs := hb.size
    by_cases hkn : k < N
    · have hkl : k < l.length := by rw [← HN.out]; exact hkn
      obtain ⟨g, rfl, hrow⟩ := HR.out (by intro e; subst e; simp at hkl)
      have hX : l[k]? = some l[k] := List.getElem?_eq_getElem hkl
      have HDR : Hid (l.drop k = l[k] :: l.drop (k + 1)) := List.drop_eq_getElem_cons hkl
      obtain ⟨X, hXX⟩ : ∃ X, X = l[k] := ⟨_, rfl⟩
      rw [← hXX] at hX HDR
      obtain ⟨f0, f1, f2, f3, f4, f5, f6⟩ := flatIns_cells l k X hX
      have hrw := hrow.below hb
      have a0 := hrw.cell _ _ f0
      have a1 := hrw.cell _ _ f1
      have a2 := hrw.cell _ _ f2
      have a3 := hrw.cell _ _ f3
      have a4 := hrw.cell _ _ f4
      have a5 := hrw.cell _ _ f5
      have a6 := hrw.cell _ _ f6
      have hk3 : (k : Int) < (N : Int) := by omega
      have hglt := hrw.lt
      clear hXX hX f0 f1 f2 f3 f4 f5 f6 hb hrw hrow
      go_wp2_with fail
      refine (HM.out X _).mono ?_
      rintro e w2 ⟨rfl, hb2⟩
      have hsz2 := hb2.size
      have HB2 : Hid (Below w.heap.size w w2) := (HB.out.alloc hbs _).trans (hb2.mono (by simp; omega))
      clear hb2
      cases hmv : mayV X N lib
      · have HGE : Hid (badIx N lib l 0 = some k) := by
          show _ = _; rw [← HG.out, HDR.out, badIx, hmv]; rfl
        clear hmv
        simp at hsz2
        go_wp2_with (go_at_call 64; refine (cfail_any _ _ _ _).mono ?_; rintro e w' ⟨rfl, rfl⟩)
        go_ret
        rw [HGE.out]
        exact ⟨_, rfl, HB2.out.size, heap_alloc_at, HB2.out.alloc HB2.out.size _⟩
      · have HGE : Hid (badIx N lib (l.drop (k + 1)) (k + 1) = badIx N lib l 0) := by
          show _ = _; rw [← HG.out, HDR.out, badIx, hmv]; rfl
        clear hmv
        go_wp2
        go_roundw
        case rel => exact ⟨k + 1, by go_num, by omega, HB2.out, HGE.out⟩
        case measure => simp [intOf]; omega
    · have hk3 : ¬ (k : Int) < (N : Int) := by omega
      have HGE : Hid (badIx N lib l 0 = none) := by
        show _ = _; rw [← HG.out, List.drop_eq_nil_of_le (by rw [← HN.out]; omega)]; rfl
      clear hb
      go_wp2
      go_ret
      rw [HGE.out]
      exact ⟨rfl, HB.out⟩
end Go.Proofs.YtnoejikcdigceaaDoor
