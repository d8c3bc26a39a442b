/- distaffkeep.Code of an argument's row and an own row. asm.Find: contract, where the label is there. -/
import Derived.Test.YtnoejikcdigceaaDoorGKeep
import Derived.Test.YtnoejikcdigceaaDoorArg
import Derived.Test.YtnoejikcdigceaaDoorOpM
set_option linter.unusedVariables false
set_option linter.unusedSimpArgs false
namespace Go.Proofs.YtnoejikcdigceaaDoor
open Go.RowKit
set_option maxRecDepth 100000 in
set_option maxHeartbeats 4000000 in
theorem code_gen (b o : Nat) (c1 g2 c2 : Nat) (code : List Ins) (hlen : code.length ≤ 1000000) (w : World) (hc1 : code.length ≤ c1) (hc2 : code.length ≤ c2) (hg1 : b < w.heap.size) (hg2 : g2 < w.heap.size)
    (h1 : ∀ j u, (flatIns code)[j]? = some u → w.cell? ⟨b, o + j, none⟩ = some u) (h2 : ∀ j u, (flatIns code)[j]? = some u → w.cell? ⟨g2, j, none⟩ = some u) :
    Calls Tryd.prog 11 #[.slice (some ⟨b, o, none⟩) code.length c1, .slice (some ⟨g2, 0, none⟩) code.length c2] w (fun e w' => e = .returned (.bool true) ∧ Below w.heap.size w w') := by
  have H1 := Lib.hid h1
  have H2 := Lib.hid h2
  clear h1 h2
  obtain ⟨N, hN⟩ : ∃ N, code.length = N := ⟨_, rfl⟩
  rw [hN]
  have HN := Lib.hid hN
  rw [hN] at hlen hc1 hc2
  clear hN
  go_enter Tryd.func11, Tryd.ntmps11
  go_wp2
  go_loopw [5] (fun s wz => ∃ (k : Nat), k ≤ N ∧ s = .int .i64 k ∧ Below w.heap.size w wz) (fun s _ => N - (intOf s).toNat)
  case atStart => exact ⟨0, by omega, rfl, Below.refl _ _⟩
  case round =>
    obtain ⟨k, hk, rfl, hbel⟩ := hrel
    by_cases hkn : k < N
    · have hX : code[k]? = some (code[k]'(by rw [HN.out]; exact hkn)) := List.getElem?_eq_getElem _
      obtain ⟨X, hXX⟩ : ∃ X, X = code[k]'(by rw [HN.out]; exact hkn) := ⟨_, rfl⟩
      rw [← hXX] at hX
      obtain ⟨f0, f1, f2, f3, f4, f5, f6⟩ := flatIns_cells code k X hX
      have a0 := (below_cell hbel hg1).trans (H1.out _ _ f0)
      have a1 : wr.cell? ⟨b, o + k * 7 + 1, none⟩ = some (.int .i64 X.a) := by rw [Nat.add_assoc]; exact (below_cell hbel hg1).trans (H1.out _ _ f1)
      have a2 : wr.cell? ⟨b, o + k * 7 + 2, none⟩ = some (.int .i64 X.b) := by rw [Nat.add_assoc]; exact (below_cell hbel hg1).trans (H1.out _ _ f2)
      have a3 : wr.cell? ⟨b, o + k * 7 + 3, none⟩ = some (.int .i64 X.c) := by rw [Nat.add_assoc]; exact (below_cell hbel hg1).trans (H1.out _ _ f3)
      have a4 : wr.cell? ⟨b, o + k * 7 + 4, none⟩ = some (.int .u64 X.v) := by rw [Nat.add_assoc]; exact (below_cell hbel hg1).trans (H1.out _ _ f4)
      have a5 : wr.cell? ⟨b, o + k * 7 + 5, none⟩ = some (.int .i64 X.m) := by rw [Nat.add_assoc]; exact (below_cell hbel hg1).trans (H1.out _ _ f5)
      have a6 : wr.cell? ⟨b, o + k * 7 + 6, none⟩ = some (.int .i64 X.wh) := by rw [Nat.add_assoc]; exact (below_cell hbel hg1).trans (H1.out _ _ f6)
      have b0 := (below_cell hbel hg2).trans (H2.out _ _ f0)
      have b1 := (below_cell hbel hg2).trans (H2.out _ _ f1)
      have b2 := (below_cell hbel hg2).trans (H2.out _ _ f2)
      have b3 := (below_cell hbel hg2).trans (H2.out _ _ f3)
      have b4 := (below_cell hbel hg2).trans (H2.out _ _ f4)
      have b5 := (below_cell hbel hg2).trans (H2.out _ _ f5)
      have b6 := (below_cell hbel hg2).trans (H2.out _ _ f6)
      have HB := Lib.hid hbel
      have hk3 : (k : Int) < (N : Int) := by omega
      clear hXX hX f0 f1 f2 f3 f4 f5 f6 hbel
      go_wp2_with fail
      go_quiet (fail)
      go_wp2
      go_roundw
      case rel => exact ⟨k + 1, by omega, by go_num, below_drewN HB.out _⟩
      case measure => simp [intOf]; omega
    · have hk3 : ¬ (k : Int) < (N : Int) := by omega
      have HB := Lib.hid hbel
      clear hbel
      go_wp2
      go_ret
      exact ⟨rfl, HB.out⟩
theorem code_arg (l : List Ins) (hlen : l.length ≤ 1000000) {B : Nat} {v1 v2 : Value} (w : World) (h1 : CodeArg w v1 l) (h2 : w.ownsRow B 37 7 v2 l.length (flatIns l)) :
    Calls Tryd.prog 11 #[v1, v2] w (fun e w' => e = .returned (.bool true) ∧ Below w.heap.size w w') := by
  cases l with
  | nil =>
    obtain ⟨a2, c2, rfl⟩ := owns_slice h2
    rcases h1 with ⟨rfl, _⟩ | ⟨a, c, rfl, _⟩
    · exact code_none none a2 0 c2 w
    · exact code_none (some a) a2 c c2 w
  | cons X l =>
    obtain ⟨g2, c2, rfl⟩ := owns_some h2 (by simp)
    obtain ⟨_, _, hc2, _⟩ := owns_block h2
    rcases h1 with ⟨_, h⟩ | ⟨⟨b, o, sp⟩, c, rfl, hc, hlt, hcell⟩
    · cases h
    · have h0 := hcell 0 (.int .i64 X.op) rfl
      have hspot : sp = none := by simpa [Addr.add] using World.cell?_spot h0
      subst hspot
      exact code_gen b o c g2 c2 (X :: l) hlen w hc hc2 (hlt (by simp)) (h2.lt g2 rfl).2 (fun j u hj => by have := hcell j u hj; rwa [Addr.add_lit] at this) (fun j u hj => owns_cell h2 hj)
theorem CodeArg.below {w w' : World} {v : Value} {l : List Ins} (h : CodeArg w v l) (hb : Below w.heap.size w w') : CodeArg w' v l := by
  rcases h with h | ⟨a, c, rfl, hc, hlt, hcell⟩
  · exact .inl h
  · refine .inr ⟨a, c, rfl, hc, fun h => Nat.lt_of_lt_of_le (hlt h) hb.size, fun j u hj => ?_⟩
    have hne : l ≠ [] := by intro e; subst e; cases hj
    have hl := hlt hne
    have h1 := hcell j u hj
    have e : ∀ x : Addr, x.block = a.block → w'.cell? x = w.cell? x := by
      intro x hx
      unfold World.cell?
      rw [hb.block _ (by rw [hx]; exact hl)]
    rw [e _ (by unfold Addr.add; split <;> rfl)]
    exact h1
end Go.Proofs.YtnoejikcdigceaaDoor

set_option linter.unusedVariables false
set_option linter.unusedSimpArgs false
namespace Go.Proofs.YtnoejikcdigceaaDoor
open Go.RowKit
theorem findMk {v : Int} {w w' : World} {x : Int} (h : x = v) (hb : Below w.heap.size w w') : Ending.returned (.tuple #[.int .i64 x, .bool true]) = .returned (.tuple #[.int .i64 v, .bool true]) ∧ Below w.heap.size w w' := ⟨by rw [h], hb⟩
set_option maxRecDepth 100000 in
set_option maxHeartbeats 4000000 in
theorem find_any (ls : List (ByteArray × Int)) (nm : ByteArray) (j : Nat) (nv : ByteArray × Int) (hf : labFind ls nm 0 = some j) (hj : ls[j]? = some nv) (g c : Nat) (hl : ls.length ≤ 1000000) (hc : ls.length ≤ c) (w : World) (hg : g < w.heap.size)
    (hcell : ∀ i u, (flatLab ls)[i]? = some u → w.cell? ⟨g, i, none⟩ = some u) :
    Calls Tryd.prog 17 #[.slice (some ⟨g, 0, none⟩) ls.length c, .string nm] w (fun e w' => e = .returned (.tuple #[.int .i64 nv.2, .bool true]) ∧ Below w.heap.size w w') := by
  have HF : Hid (labFind (ls.drop 0) nm 0 = some j) := hf
  have HJ := Lib.hid hj
  have HC := Lib.hid hcell
  obtain ⟨N, hN⟩ : ∃ N, N = ls.length := ⟨_, rfl⟩
  rw [← hN] at hl hc ⊢
  have HN := Lib.hid hN
  clear hf hj hcell hN
  go_enter Tryd.func17, Tryd.ntmps17
  go_wp2
  go_loopw [10] (fun s wz => ∃ k : Nat, k ≤ N ∧ s = .int .i64 k ∧ Below w.heap.size w wz ∧ Hid (labFind (ls.drop k) nm k = some j)) (fun s _ => N - (intOf s).toNat)
  case atStart => exact ⟨0, by omega, rfl, Below.refl _ _, HF⟩
  case round =>
    obtain ⟨k, hk, rfl, hbel, HK⟩ := hrel
    by_cases hkn : k < N
    · have hkl : k < ls.length := by rw [← HN.out]; exact hkn
      have hX : ls[k]? = some ls[k] := List.getElem?_eq_getElem hkl
      have hdr : ls.drop k = ls[k] :: ls.drop (k + 1) := List.drop_eq_getElem_cons hkl
      obtain ⟨X, hXX⟩ : ∃ X, X = ls[k] := ⟨_, rfl⟩
      rw [← hXX] at hX hdr
      obtain ⟨f0, f1⟩ := flatLab_cells ls k X hX
      have a0 := (below_cell hbel hg).trans (HC.out _ _ f0)
      have a1 := (below_cell hbel hg).trans (HC.out _ _ f1)
      have HB := Lib.hid hbel
      have hbs := hbel.size
      have hk3 : (k : Int) < (N : Int) := by omega
      have HX := Lib.hid hX
      have HD : Hid (labFind (ls.drop k) nm k = if X.1 = nm then some k else labFind (ls.drop (k + 1)) nm (k + 1)) := by show _ = _; rw [hdr]; rfl
      clear hXX hX f0 f1 hbel hdr
      cases hs : (X.1.toList == nm.toList)
      · have HNE := Lib.hid (toList_ne hs)
        go_wp2
        go_roundw
        case rel => exact ⟨k + 1, by omega, by go_num, HB.out.alloc hbs _, by show _ = _; rw [← HK.out, HD.out, if_neg HNE.out]⟩
        case measure => simp [intOf]; omega
      · have HEQ := Lib.hid (toList_eq hs)
        have HV : Hid (X.2 = nv.2) := by
          show _ = _
          have h := HK.out
          rw [HD.out, if_pos HEQ.out] at h
          injection h with h
          subst h
          have := HX.out.symm.trans HJ.out
          injection this with this
          rw [this]
        go_wp2
        go_ret2
        exact findMk HV.out (HB.out.alloc hbs _)
    · exfalso
      have h := HK.out
      rw [List.drop_eq_nil_of_le (by rw [← HN.out]; omega)] at h
      cases h
end Go.Proofs.YtnoejikcdigceaaDoor
