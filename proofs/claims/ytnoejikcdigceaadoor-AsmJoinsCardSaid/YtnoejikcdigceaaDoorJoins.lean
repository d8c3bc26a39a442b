/- AsmJoins: two printed texts, one behind the other, the second one's labels renamed, are read as both codes: the law returns true for all codes. No condition. -/
import Derived.Test.YtnoejikcdigceaaDoorBack
import Derived.Test.YtnoejikcdigceaaDoorJoinW
set_option linter.unusedVariables false
set_option linter.unusedSimpArgs false
namespace Go.Proofs.YtnoejikcdigceaaDoor
open Go.RowKit Go.ChangeShapes Go.WideShapes Go.ChangeAt
theorem joins_any (a b : List Ins) (va vb : Value) (hav : ∀ X ∈ a, 0 ≤ X.v ∧ X.v ≤ 18446744073709551615) (hbv : ∀ X ∈ b, 0 ≤ X.v ∧ X.v ≤ 18446744073709551615) (m : Int) (w : World)
    (hA : CodeArg w va a) (hB : CodeArg w vb b) (hm : w.cell? ⟨1, 0, none⟩ = some (.int .i64 m)) (hg : w.cell? ⟨0, 0, none⟩ = some (.iface 119 (.agg #[.pointer (some ⟨4, 28, none⟩)]))) :
    Calls Tryd.prog 5 #[va, vb] w (RetT w) := by
  by_cases h : 40 < a.length ∨ 40 < b.length ∨ a.length = 0 ∨ b.length = 0
  · obtain ⟨va1, vc1, rfl⟩ := hA.form
    obtain ⟨va2, vc2, rfl⟩ := hB.form
    exact joins_out a.length b.length va1 va2 vc1 vc2 h m w hm
  · exact joins_main a b va vb (by omega) (by omega) (by omega) (by omega) hav hbv m w hA hB hm hg
set_option maxRecDepth 100000 in
theorem joins_lifted (os : Os) (started : os.Started) (H : Type) (enc : TypeId × Value → H) :
    ReturnsInHanded {} Tryd.checked os 5 .any (fun w args => (Rows.asmJoinsSpec.pre enc Tryd.prog Tryd.f5 [] false w args ∧ laidMetH Tryd.prog errL w) ∧ sizedMet enc Tryd.prog Tryd.f5 (OpenSpec.ofChange Rows.asmJoinsSpec) false w args)
      (Rows.asmJoinsSpec.post enc Tryd.prog Tryd.f5 false true false false) := by
  refine wrapS (C := Tryd.checked) (X := fun w _ => laidMetH Tryd.prog errL w) (fun _ _ _ hh h => h.of_heap hh) own started (by kernel_rfl) Tryd.func5
    (ChangeSpec.witness_shaped (enc := enc) (C := Tryd.checked) (os := os) (X := fun w _ => laidMetH Tryd.prog errL w) false (laidWorld os) #[.slice none 0 0, .slice none 0 0] 8 rfl (World.shaped_of_RefB (by kernel_rfl) (by kernel_rfl)) (by kernel_rfl) (by kernel_rfl) (by kernel_rfl) (err_met os _)) ?_
  intro W base args ds gs before hval0 hW hz hL hsh
  have hval : ∀ (j : Nat) t v, Tryd.f5.params[j]? = some t → args[j]? = some v → Value.okWide Tryd.prog W .any base t v := hval0
  have hW' := hW
  obtain ⟨p, q, hA0, hV, rfl, hfz, hnd⟩ := hW
  have hA : DataW.TrodAll enc Tryd.prog W 0 (fun _ => true) true Tryd.f5.params.toList args.toList ds p := hA0
  rw [Tryd.params5] at hA hval
  obtain ⟨v0, v1, d0, d1, p0, p1, rfl, rfl, rfl, h0, h1⟩ := trodAll_two hA
  obtain ⟨rfl, rfl⟩ := trodVars_none hV
  have hz' : (DataW.weightsEach Tryd.prog [25, 25] [d0, d1]).all (· ≤ reachBytes) = true := hz
  obtain ⟨l, hl, hv, hlen⟩ := open_code (hval 0 25 v0 rfl rfl) h0 (fun elems spare e => by
    subst e
    have := sized_slice hz' (j := 0) rfl rfl Tryd.underlying25
    rw [bytes37] at this
    simpa [reachBytes] using this)
  obtain ⟨l1, hl1, hv1, hlen1⟩ := open_code (hval 1 25 v1 rfl rfl) h1 (fun elems spare e => by
    subst e
    have := sized_slice hz' (j := 1) rfl rfl Tryd.underlying25
    rw [bytes37] at this
    simpa [reachBytes] using this)
  clear hA0 hval0
  simp only [List.append_nil] at hW'
  obtain ⟨m, hm⟩ := maxLen_cell hsh
  have hlt : ∀ x ∈ p0 ++ p1, x.block < W.heap.size := fun x hx => hW'.lt x hx
  refine (joins_any l l1 v0 v1 hv hv1 m W hl hl1 hm (errorType_cell hL)).mono fun e W' ⟨he, hb⟩ => ?_
  subst he
  exact ⟨_, rfl, postBelow (pa := p0 ++ p1) (pv := []) hW' (fun _ _ _ => trodAll_mk1 (shut_bool Tryd.underlying4 _)) (fun sp hs => trodAll_mk2 (code_reads h0 hb (fun x hx => hlt x (List.mem_append.2 (.inl hx))) (fun x hx => hs x (List.mem_append.2 (.inl hx)))) (code_reads h1 hb (fun x hx => hlt x (List.mem_append.2 (.inr hx))) (fun x hx => hs x (List.mem_append.2 (.inr hx))))) (fun _ _ => rfl) (by simp)
    hb (ok_one (by kernel_rfl) rfl (okWide_bool_mk Tryd.underlying4 _))⟩
theorem joins_holds : Rows.AsmJoinsSaid :=
  OpenClaim.holds_of_wide 5 Tryd.f5 rfl rfl rfl rfl rfl rfl rfl ⟨rfl, rfl, rfl, rfl, rfl⟩ rfl rfl rfl rfl rfl (by kernel_rfl) Tryd.func5 (by kernel_rfl)
    (of_decide_eq_true (by kernel_rfl)) (by unfold Func.isWrapper; rw [if_neg (of_decide_eq_false (by kernel_rfl))]; exact ⟨rfl, rfl⟩)
    (fun os started H enc _ => joins_lifted os started H enc)
theorem joins_proved : Rows.AsmJoinsCardSaid :=
  Claim7.holds_tied_plain_at .later [] [.data, .handle, .pinned] true (true, "c08200f95f7856d9ce5d9836616d241a8489ad15d19ebedaea16ed19b9cfcb61") true
    joins_holds (fun _ h => by cases h) (by kernel_rfl) (fun _ h => by cases h) asmJoins_row_tie rfl ⟨rfl, rfl⟩ (by kernel_rfl) rfl
    (fun f fn hf hfn => by
      obtain rfl : f = 5 := Option.some.inj ((show Tryd.prog.funcNamed "distaff/distafflaw05.AsmJoins" = some 5 by kernel_rfl).symm.trans hf) |>.symm
      obtain rfl : fn = Tryd.f5 := (Option.some.inj (Tryd.func5.symm.trans hfn)).symm
      exact ⟨by kernel_rfl, fun j t ht => by
        rw [Tryd.params5] at ht
        have h3 : t = 25 := by
          rcases j with _ | _ | j
          · simpa using ht.symm
          · simpa using ht.symm
          · simp at ht
        subst h3
        exact (show Tryd.prog.wantsStandIn 25 = false by kernel_rfl)⟩)
    (by kernel_rfl)
#print axioms joins_proved
end Go.Proofs.YtnoejikcdigceaaDoor
