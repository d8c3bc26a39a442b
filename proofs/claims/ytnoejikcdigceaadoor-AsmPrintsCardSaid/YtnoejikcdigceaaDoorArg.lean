/- An argument that is a slice of instructions, opened to its cells. -/
import Derived.Test.YtnoejikcdigceaaDoorCopyC
import Derived.Test.YtnoejikcdigceaaDoorWrap2
import Derived.Deep.Slices
import Derived.Deep.Fields
import Derived.ChangeSame
import Derived.SizedLaws
set_option linter.unusedVariables false
set_option linter.unusedSimpArgs false
set_option maxRecDepth 100000
namespace Go.Proofs.YtnoejikcdigceaaDoor
open Go.RowKit Go.ChangeShapes Go.WideShapes Go.ChangeAt Go.Deep
theorem flatIns_at : ∀ (l : List Ins) (j : Nat) (u : Value), (flatIns l)[j]? = some u → ∃ q r X, j = q * 7 + r ∧ l[q]? = some X ∧ (insCells X)[r]? = some u
  | [], j, u, h => by cases h
  | Y :: l, j, u, h => by
    have e : (insCells Y).toList.length = 7 := rfl
    rw [flatIns_cons] at h
    by_cases hj : j < 7
    · rw [List.getElem?_append_left (by rw [e]; exact hj)] at h
      exact ⟨0, j, Y, by omega, rfl, by simpa using h⟩
    · rw [List.getElem?_append_right (by rw [e]; omega), e] at h
      obtain ⟨q, r, X, h1, h2, h3⟩ := flatIns_at l (j - 7) u h
      exact ⟨q + 1, r, X, by omega, by simpa using h2, h3⟩
theorem insFields : ∃ f0 f1 f2 f3 f4 f5 f6 : Field, Tryd.prog.underlying 37 = some (.struct #[f0, f1, f2, f3, f4, f5, f6]) ∧ oneCellFields Tryd.prog #[f0, f1, f2, f3, f4, f5, f6] = true ∧ f0.type = 3 ∧ f1.type = 3 ∧ f2.type = 3 ∧ f3.type = 3 ∧ f4.type = 35 ∧ f5.type = 3 ∧ f6.type = 3 :=
  ⟨_, _, _, _, _, _, _, Tryd.underlying37, by kernel_rfl, rfl, rfl, rfl, rfl, rfl, rfl, rfl⟩
theorem cells37 : Tryd.prog.cellsOf 37 = 7 := by kernel_rfl
theorem bytes37 : Tryd.prog.bytesOf 37 = 56 := by kernel_rfl
section
variable {H : Type} {enc : TypeId × Value → H} {w : World} {base : Nat} {spare : Nat → Bool} {held : Bool}
theorem open_ins {n : Nat} {cs : List Value} {x : DataW H × List MemPlace} {a : Addr} (hc : w.cells? base a 7 = some cs) (ht : DataW.trod enc Tryd.prog w base spare held n 37 cs = some x) :
    ∃ X : Ins, (0 ≤ X.v ∧ X.v ≤ 18446744073709551615) ∧ ∀ r u, (insCells X)[r]? = some u → w.cell? (a.add r) = some u := by
  obtain ⟨f0, f1, f2, f3, f4, f5, f6, hs, hone, t0, t1, t2, t3, t4, t5, t6⟩ := insFields
  obtain ⟨xs, k, _, _, hlen, hxl, hf⟩ := DataW.trod_struct hs ht
  rw [cells37] at hlen
  obtain ⟨_, hcl, hat⟩ := World.cells?_some hc
  match cs, hlen with
  | [c0, c1, c2, c3, c4, c5, c6], _ =>
    obtain ⟨o0, k0⟩ := hone_of hone 0 f0 rfl
    obtain ⟨o1, k1⟩ := hone_of hone 1 f1 rfl
    obtain ⟨o2, k2⟩ := hone_of hone 2 f2 rfl
    obtain ⟨o3, k3⟩ := hone_of hone 3 f3 rfl
    obtain ⟨o4, k4⟩ := hone_of hone 4 f4 rfl
    obtain ⟨o5, k5⟩ := hone_of hone 5 f5 rfl
    obtain ⟨o6, k6⟩ := hone_of hone 6 f6 rfl
    match xs, hxl with
    | [y0, y1, y2, y3, y4, y5, y6], _ =>
      have g0 := hf 0 f0 rfl
      have g1 := hf 1 f1 rfl
      have g2 := hf 2 f2 rfl
      have g3 := hf 3 f3 rfl
      have g4 := hf 4 f4 rfl
      have g5 := hf 5 f5 rfl
      have g6 := hf 6 f6 rfl
      rw [o0, k0, t0] at g0
      rw [o1, k1, t1] at g1
      rw [o2, k2, t2] at g2
      rw [o3, k3, t3] at g3
      rw [o4, k4, t4] at g4
      rw [o5, k5, t5] at g5
      rw [o6, k6, t6] at g6
      obtain ⟨n0, e0, -, -⟩ := DataW.trod_int Tryd.underlying3 g0
      obtain ⟨n1, e1, -, -⟩ := DataW.trod_int Tryd.underlying3 g1
      obtain ⟨n2, e2, -, -⟩ := DataW.trod_int Tryd.underlying3 g2
      obtain ⟨n3, e3, -, -⟩ := DataW.trod_int Tryd.underlying3 g3
      obtain ⟨n4, e4, -, w4⟩ := DataW.trod_int Tryd.underlying35 g4
      obtain ⟨n5, e5, -, -⟩ := DataW.trod_int Tryd.underlying3 g5
      obtain ⟨n6, e6, -, -⟩ := DataW.trod_int Tryd.underlying3 g6
      simp at e0 e1 e2 e3 e4 e5 e6
      subst e0 e1 e2 e3 e4 e5 e6
      refine ⟨⟨n0, n1, n2, n3, n4, n5, n6⟩, ?_, ?_⟩
      · have := w4
        unfold Lit.wf at this
        simp at this
        have e1 : IntKind.u64.min = 0 := by decide
        have e2 : IntKind.u64.max = 18446744073709551615 := by decide
        rw [e1, e2] at this
        exact this
      · intro r u hr
        have hr7 : r < 7 := (Array.getElem?_eq_some_iff.1 hr).1
        have h := hat (i := r) hr7
        rw [h]
        unfold insCells at hr
        have : r = 0 ∨ r = 1 ∨ r = 2 ∨ r = 3 ∨ r = 4 ∨ r = 5 ∨ r = 6 := by omega
        rcases this with rfl | rfl | rfl | rfl | rfl | rfl | rfl <;> simpa using hr
end
theorem open_code {H : Type} {enc : TypeId × Value → H} {W : World} {r : Reach} {b : Nat} {v : Value} {d : DataW H} {ps : List MemPlace} (hok : Value.okWide Tryd.prog W r b 25 v) (h : DataW.Trod enc Tryd.prog W 0 (fun _ => true) true 25 v d ps)
    (hw : ∀ elems spare, d = .slice elems spare → (elems.length + spare.length) * 56 ≤ 140737488351232) :
    ∃ l : List Ins, CodeArg W v l ∧ (∀ X ∈ l, 0 ≤ X.v ∧ X.v ≤ 18446744073709551615) ∧ l.length * 56 ≤ 140737488351232 := by
  obtain ⟨va, vl, vc, rfl⟩ := okWide_slice Tryd.underlying25 hok
  obtain ⟨fuel, hf⟩ := h
  rcases open_slice Tryd.underlying25 hf with ⟨h1, h2⟩ | ⟨a, len, cap, m, n, D, Pl, hcs, hb, hl, hm, hmm, hx, hi⟩
  · have e : (Value.slice va vl vc) = .slice none 0 0 := by simpa [Value.cells] using h1
    exact ⟨[], .inl ⟨e, rfl⟩, fun X hX => by (cases hX), by simp⟩
  · have e : (Value.slice va vl vc) = .slice (some a) len cap := by simpa [Value.cells] using hcs
    rw [cells37] at hi
    have hmc : m = cap := by simpa using hmm
    have hX : ∀ i, ∃ X : Ins, i < len → (0 ≤ X.v ∧ X.v ≤ 18446744073709551615) ∧ ∀ r u, (insCells X)[r]? = some u → W.cell? ((a.add (i * 7)).add r) = some u := by
      intro i
      by_cases hil : i < len
      · obtain ⟨cs', hc, ht⟩ := hi i (by omega)
        obtain ⟨X, h1, h2⟩ := open_ins hc ht
        exact ⟨X, fun _ => ⟨h1, h2⟩⟩
      · exact ⟨zI, fun h => absurd h hil⟩
    obtain ⟨f, hf⟩ := Classical.axiomOfChoice hX
    have hlen : ((List.range len).map f).length = len := by simp
    refine ⟨(List.range len).map f, .inr ⟨a, cap, by rw [hlen]; exact e, by rw [hlen]; exact hl, ?_, ?_⟩, ?_, ?_⟩
    · intro hne
      have hpos : 0 < len := by
        rcases Nat.eq_zero_or_pos len with h0 | h0
        · exact absurd (List.eq_nil_of_length_eq_zero (by rw [hlen]; exact h0)) hne
        · exact h0
      have := (hf 0 hpos).2 0 _ rfl
      have h9 := World.block_lt_of_cell? W _ this
      have h8 : ((a.add (0 * 7)).add 0).block = a.block := rfl
      rw [h8] at h9; exact h9
    · intro j u hj
      obtain ⟨q, r, X, rfl, hq, hr⟩ := flatIns_at _ j u hj
      have hql : q < len := by
        have := (List.getElem?_eq_some_iff.1 hq).1
        rw [hlen] at this; exact this
      rw [List.getElem?_map, List.getElem?_range hql] at hq
      injection hq with hq
      subst hq
      have := (hf q hql).2 r u hr
      rw [Go.Deep.add_add] at this
      exact this
    · intro X hX
      obtain ⟨q, hq, rfl⟩ := List.mem_map.1 hX
      exact (hf q (List.mem_range.1 hq)).1
    · rw [hlen]
      have hd := congrArg Prod.fst hx
      have := hw _ _ hd
      rw [List.length_map, List.length_range] at this
      omega
end Go.Proofs.YtnoejikcdigceaaDoor
