/- distaffkeep.kind and distaffkeep.Same at errors of one place. -/
import Derived.Test.YtnoejikcdigceaaDoorIs
import Derived.Test.YtnoejikcdigceaaDoorAwake
import Derived.Deep.DeepCutAuto
import Derived.Test.YtnoejikcdigceaaDoorMix
import Derived.BigQuiet
set_option linter.unusedVariables false
set_option linter.unusedSimpArgs false
namespace Go.Proofs.YtnoejikcdigceaaDoor
open Go.RowKit
set_option maxRecDepth 100000 in
set_option maxHeartbeats 4000000 in
theorem kind_any (b : Nat) (x : Nat) (h1 : 1 ≤ x) (h2 : x ≤ 10) (w : World) (h : w.cell? ⟨b, 2, none⟩ = some (.iface 41 (.int .i64 x))) :
    Calls Tryd.prog 22 #[.iface 68 (.pointer (some ⟨b, 0, none⟩))] w fun e w' => e = .returned (.int .i64 x) ∧ w' = w := by
  have H := Lib.hid h
  clear h
  go_enter Tryd.func22, Tryd.ntmps22
  go_wp2
  go_loop [3, 4] (fun f k => ∃ j : Nat, 1 ≤ j ∧ j ≤ 11 ∧ k = .int .i64 j ∧ ((j ≤ x ∧ f = .int .i64 0) ∨ (x < j ∧ f = .int .i64 x))) (fun _ k => 11 - (intOf k).toNat)
  case atStart => exact ⟨1, by omega, by omega, rfl, Or.inl ⟨h1, rfl⟩⟩
  case round =>
    obtain ⟨j, hj1, hj2, rfl, hf⟩ := hrel
    by_cases hj : j ≤ 10
    · by_cases hx : j = x
      · subst hx
        have hf := hf.resolve_right (fun h => Nat.lt_irrefl _ h.1)
        obtain ⟨_, rfl⟩ := hf
        have hI := fun w' (h : w'.cell? ⟨b, 2, none⟩ = some (.iface 41 (.int .i64 j))) => is_at b j j w' h true (by simp)
        have HI := Lib.hid hI
        clear hI
        go_wp2_with (go_at_call 39; refine (HI.out _ H.out).mono ?_; rintro e w' ⟨rfl, rfl⟩)
        go_round
        case rel => exact ⟨j + 1, by omega, by omega, by go_num, Or.inr ⟨by omega, rfl⟩⟩
        case measure => simp [intOf]; omega
      · have hb : ((x : Int) == (j : Int)) = false := by rw [beq_eq_false_iff_ne]; omega
        have HI := Lib.hid (fun w' (h : w'.cell? ⟨b, 2, none⟩ = some (.iface 41 (.int .i64 x))) => is_at b x j w' h false hb)
        clear hb
        rcases hf with ⟨hf1, rfl⟩ | ⟨hf1, rfl⟩
        all_goals
          go_wp2_with (go_at_call 39; refine (HI.out _ H.out).mono ?_; rintro e w' ⟨rfl, rfl⟩)
          go_round
          case rel => first | exact ⟨j + 1, by omega, by omega, by go_num, Or.inl ⟨by omega, rfl⟩⟩ | exact ⟨j + 1, by omega, by omega, by go_num, Or.inr ⟨by omega, rfl⟩⟩
          case measure => simp [intOf]; omega
    · have hf := hf.resolve_left (fun h => by omega)
      obtain ⟨_, rfl⟩ := hf
      go_wp2
      go_ret
      exact ⟨rfl, rfl⟩
/-- What distaffkeep.No makes: an error of one place. -/
def FailAt (w : World) (p : Nat) (lay : ByteArray) (n k : Int) : Prop :=
  ∃ g1 g2, w.heap[p]? = some (.cells #[.slice (some ⟨g1, 0, none⟩) 1 1, .slice (some ⟨g2, 0, none⟩) 1 1, .int .i64 k] 67 (0, 0)) ∧
    w.heap[g1]? = some (.cells #[.string lay] 9 (0, 0)) ∧ w.heap[g2]? = some (.cells #[.int .i64 n] 3 (0, 0))
set_option maxRecDepth 100000 in
set_option maxHeartbeats 4000000 in
theorem no_any (lay : ByteArray) (n k : Int) (w : World) : Calls Tryd.prog 13 #[.string lay, .int .i64 n, .int .i64 k] w fun e w' => ∃ p, e = .returned (.pointer (some ⟨p, 0, none⟩)) ∧ w.heap.size ≤ p ∧ FailAt w' p lay n k ∧ Below w.heap.size w w' := by
  go_enter Tryd.func13, Tryd.ntmps13
  go_wp2
  go_ret
  refine ⟨_, rfl, by omega, ⟨w.heap.size, w.heap.size + 1, ?_, ?_, ?_⟩, (((Below.refl _ _).alloc (Nat.le_refl _) _).alloc (by simp) _).alloc (by simp; omega) _⟩
  · rw [show w.heap.size + 1 + 1 = ((w.alloc (.cells #[.string lay] 9)).alloc (.cells #[.int .i64 n] 3)).heap.size from by simp]
    exact heap_alloc_at
  · rw [heap_alloc_lt (by simp; omega), heap_alloc_lt (by simp)]
    exact heap_alloc_at
  · rw [heap_alloc_lt (by simp), show w.heap.size + 1 = (w.alloc (.cells #[.string lay] 9)).heap.size from by simp]
    exact heap_alloc_at
theorem as_hit2 (e : Addr) (tb : Nat) (old : Value) (w : World) (hg : w.cell? ⟨0, 0, none⟩ = some (.iface 119 (.agg #[.pointer (some ⟨4, 28, none⟩)]))) (ht0 : w.cell? ⟨tb, 0, none⟩ = some old) (hf0 : w.frozen? ⟨tb, 0, none⟩ = false) :
    Calls Tryd.prog 23 #[.iface 68 (.pointer (some e)), .iface 70 (.pointer (some ⟨tb, 0, none⟩))] w fun ev w' => ev = .returned (.bool true) ∧ w'.cell? ⟨tb, 0, none⟩ = some (.pointer (some e)) ∧ w.grownBy w' (some tb) := by
  have hlt := World.block_lt_of_cell? w _ ht0
  refine (as_hit e ⟨tb, 0, none⟩ old w hg ht0 hf0).mono ?_
  rintro ev w' ⟨rfl, rfl⟩
  refine ⟨rfl, ?_, grown_set (grown_alloc (grown_alloc (grown_alloc (grown_alloc (grown_refl w _) _) _) _) _) _ _⟩
  refine World.cell?_setCell_same _ _ _ (?_ : World.cell? _ _ = some old)
  rw [World.cell?_alloc_past _ _ _ (by simp at hlt ⊢; omega), World.cell?_alloc_past _ _ _ (by simp at hlt ⊢; omega), World.cell?_alloc_past _ _ _ (by simp at hlt ⊢; omega), World.cell?_alloc_past _ _ _ (by simpa using hlt)]
  exact ht0
theorem as_miss2 (x : Int) (tb : Nat) (w : World) (hg : w.cell? ⟨0, 0, none⟩ = some (.iface 119 (.agg #[.pointer (some ⟨4, 28, none⟩)]))) :
    Calls Tryd.prog 23 #[.iface 41 (.int .i64 x), .iface 70 (.pointer (some ⟨tb, 0, none⟩))] w fun ev w' => ev = .returned (.bool false) ∧ Below w.heap.size w w' := by
  refine (as_miss x ⟨tb, 0, none⟩ w hg).mono ?_
  rintro ev w' ⟨rfl, rfl⟩
  exact ⟨rfl, ((Below.refl _ _).alloc (Nat.le_refl _) _).alloc (by simp) _ |>.alloc (by simp; omega) _⟩
theorem grown_cell {w w' : World} {T g i : Nat} (h : w.grownBy w' (some T)) (hg : g < w.heap.size) (hne : g ≠ T) : w'.cell? ⟨g, i, none⟩ = w.cell? ⟨g, i, none⟩ := by
  unfold World.cell?
  simp only [h.block g hg (fun e => hne (Option.some.inj e))]
set_option maxRecDepth 100000 in
set_option maxHeartbeats 4000000 in
theorem same_one (b p : Nat) (lay : ByteArray) (n : Int) (x : Nat) (h1 : 1 ≤ x) (h2 : x ≤ 10) (w : World) (hb : w.heap[b]? = some (.cells #[.string lay, .int .i64 n, .iface 41 (.int .i64 x)] 72 (0, 0))) (hf : FailAt w p lay n x)
    (hg : w.cell? ⟨0, 0, none⟩ = some (.iface 119 (.agg #[.pointer (some ⟨4, 28, none⟩)]))) :
    Calls Tryd.prog 12 #[.iface 68 (.pointer (some ⟨b, 0, none⟩)), .pointer (some ⟨p, 0, none⟩)] w (RetT w) := by
  obtain ⟨g1, g2, hp, hg1, hg2⟩ := hf
  have cb2 : w.cell? ⟨b, 2, none⟩ = some (.iface 41 (.int .i64 x)) := rowCell hb
  have cp2 : w.cell? ⟨p, 2, none⟩ = some (.int .i64 x) := rowCell hp
  have cp0 : w.cell? ⟨p, 0, none⟩ = some (.slice (some ⟨g1, 0, none⟩) 1 1) := rowCell hp
  have hx : ((x : Int) != (x : Int)) = false := by rw [bne_eq_false_iff_eq]
  have HK := Lib.hid (fun w' (h : w'.cell? ⟨b, 2, none⟩ = some (.iface 41 (.int .i64 x))) => kind_any b x h1 h2 w' h)
  have HC := Lib.hid cb2
  have HBR := Lib.hid hb
  have HP := Lib.hid hp
  have HG1 := Lib.hid hg1
  have HG2 := Lib.hid hg2
  have HG := Lib.hid hg
  clear hb hp hg1 hg2 hg
  go_enter Tryd.func12, Tryd.ntmps12
  go_wp2_with fail
  go_quiet ((go_at_call 22; exact Calls.quiet_of_same (HK.out _ HC.out)))
  go_wp2_with fail
  refine wp_loop_rounds 2 ?_
  rw [rounds_succ]
  go_wp2_with fail
  obtain ⟨W0, hW0⟩ : ∃ W0, (w.drewN nq).alloc (.cells #[.pointer none] 68) = W0 := ⟨_, rfl⟩
  obtain ⟨T, hT⟩ : ∃ T, T = w.heap.size := ⟨_, rfl⟩
  have hsz : W0.heap.size = T + 1 := by rw [← hW0, hT]; simp
  have hold : ∀ g i, g < T → W0.cell? ⟨g, i, none⟩ = w.cell? ⟨g, i, none⟩ := by
    intro g i hlt
    rw [← hW0, World.cell?_alloc_past _ _ _ (by rw [hT] at hlt; exact hlt)]; rfl
  have hgW : W0.cell? ⟨0, 0, none⟩ = some (.iface 119 (.agg #[.pointer (some ⟨4, 28, none⟩)])) := by
    rw [hold 0 0 (by rw [hT]; exact World.block_lt_of_cell? w _ HG.out)]; exact HG.out
  have htW : W0.cell? ⟨T, 0, none⟩ = some (.pointer none) := by
    rw [← hW0, hT]
    exact rowCell (c := #[.pointer none]) (t := 68) (heap_alloc_at (w := w.drewN nq))
  have hfW : W0.frozen? ⟨T, 0, none⟩ = false := by
    rw [← hW0, hT]
    exact rowFree (c := #[.pointer none]) (t := 68) (heap_alloc_at (w := w.drewN nq))
  have lb : b < T := by rw [hT]; exact (Array.getElem?_eq_some_iff.1 HBR.out).1
  have lp : p < T := by rw [hT]; exact (Array.getElem?_eq_some_iff.1 HP.out).1
  have lg1 : g1 < T := by rw [hT]; exact (Array.getElem?_eq_some_iff.1 HG1.out).1
  have lg2 : g2 < T := by rw [hT]; exact (Array.getElem?_eq_some_iff.1 HG2.out).1
  have a1 : W0.cell? ⟨b, 0, none⟩ = some (.string lay) := (hold _ _ lb).trans (rowCell HBR.out)
  have a2 : W0.cell? ⟨b, 1, none⟩ = some (.int .i64 n) := (hold _ _ lb).trans (rowCell HBR.out)
  have a3 : W0.cell? ⟨b, 2, none⟩ = some (.iface 41 (.int .i64 x)) := (hold _ _ lb).trans (rowCell HBR.out)
  have a4 : W0.cell? ⟨p, 0, none⟩ = some (.slice (some ⟨g1, 0, none⟩) 1 1) := (hold _ _ lp).trans (rowCell HP.out)
  have a5 : W0.cell? ⟨p, 1, none⟩ = some (.slice (some ⟨g2, 0, none⟩) 1 1) := (hold _ _ lp).trans (rowCell HP.out)
  have a6 : W0.cell? ⟨g1, 0, none⟩ = some (.string lay) := (hold _ _ lg1).trans (rowCell HG1.out)
  have a7 : W0.cell? ⟨g2, 0, none⟩ = some (.int .i64 n) := (hold _ _ lg2).trans (rowCell HG2.out)
  have HW0 := Lib.hid hW0
  have HOLD := Lib.hid hold
  have HSZ := Lib.hid hsz
  rw [hW0]
  rw [← hT]
  have HT := Lib.hid hT
  clear hW0 hold hsz cb2 cp2 cp0 hT
  refine mixStart (by kernel_rfl) ?_
  refine mixSeg 0 2 (by kernel_rfl) (by kernel_rfl) rfl ?_
  simp only [List.take_succ_cons, List.take_zero, List.drop_succ_cons, List.drop_zero]
  repeat still_step
  refine wpStill_nil ?_
  go_wp2_with fail
  refine (as_hit2 _ T (.pointer none) W0.drew hgW htW hfW).mono ?_
  rintro e w2 ⟨rfl, ht2, hgr2'⟩
  have hgr2 : W0.grownBy w2 (some T) := ⟨hgr2'.os, hgr2'.tape, hgr2'.output, hgr2'.size, hgr2'.block⟩
  clear hgr2'
  have k2 : ∀ g i, g < T → w2.cell? ⟨g, i, none⟩ = W0.cell? ⟨g, i, none⟩ := fun g i hlt => grown_cell hgr2 (show g < W0.heap.size by have := HSZ.out; omega) (by omega)
  have c1 := (k2 _ 0 lb).trans a1
  have c2 := (k2 _ 1 lb).trans a2
  have c3 := (k2 _ 2 lb).trans a3
  have c4 := (k2 _ 0 lp).trans a4
  have c5 := (k2 _ 1 lp).trans a5
  have c6 := (k2 _ 0 lg1).trans a6
  have c7 := (k2 _ 0 lg2).trans a7
  have hz2 : T + 1 ≤ w2.heap.size := by have := hgr2.size; have h3 := HSZ.out; show T + 1 ≤ _; rw [← h3]; exact this
  have HGR := Lib.hid hgr2
  have HG2W : Hid (w2.cell? ⟨0, 0, none⟩ = some (.iface 119 (.agg #[.pointer (some ⟨4, 28, none⟩)]))) := by
    refine (grown_cell hgr2 ?_ ?_).trans hgW
    · show 0 < W0.heap.size; have := HSZ.out; omega
    · have := World.block_lt_of_cell? w _ HG.out; have := HT.out; simp at *; omega
  have hl1 : (lay.toList != lay.toList) = false := by simp
  have hn1 : (n != n) = false := by simp
  clear k2 hgr2 a1 a2 a3 a4 a5 a6 a7 hgW htW hfW
  go_wp2_with fail
  refine mixLast 3 (by kernel_rfl) ?_
  simp only [List.take_succ_cons, List.take_zero, List.drop_succ_cons, List.drop_zero]
  repeat still_step
  refine wpStill_nil ?_
  go_wp2_with fail
  rw [rounds_succ]
  go_wp2_with fail
  have HBW : Hid (Below w.heap.size w w2) := by
    show Below _ _ _
    have h0 : Below w.heap.size w W0 := by rw [← HW0.out]; exact (below_drewN (Below.refl _ _) _).alloc (Nat.le_refl _) _
    have h1 := HGR.out
    exact ⟨h1.os.trans h0.os, h1.tape.trans h0.tape, h1.output.trans h0.output, Nat.le_trans h0.size h1.size, fun k hk => (h1.block k (Nat.lt_of_lt_of_le hk h0.size) (fun e => by have e1 := Option.some.inj e; have e2 := HT.out; omega)).trans (h0.block k hk)⟩
  refine (as_miss2 x w2.heap.size _ ?_).mono ?_
  · rw [World.cell?_alloc_past _ _ _ (by show 0 < _; omega)]; exact HG2W.out
  rintro e w3 ⟨rfl, hb3⟩
  have HB3 := Lib.hid hb3
  clear hb3
  go_wp2
  go_ret
  have h1 := HB3.out
  exact ⟨rfl, (HBW.out.alloc HBW.out.size _).trans (h1.mono (by have := HBW.out.size; simp; omega))⟩
end Go.Proofs.YtnoejikcdigceaaDoor
