/- A region that draws its order, walked in the order of its text: stretches of operations that leave the world alone, between them operations that all later ones wait for. -/
import Derived.StillTail
import Derived.StillTactics
set_option linter.unusedVariables false
set_option linter.unusedSimpArgs false
namespace Go.Proofs.YtnoejikcdigceaaDoor
open Go
section
variable {P : Program} {ops : Array Oper} {md : Region.Mode} {w : World}
/-- The first s operations are through. -/
def preA (n s : Nat) : Array Bool := ((List.range n).map fun i => decide (i < s)).toArray
theorem preA_size (n s : Nat) : (preA n s).size = n := by simp [preA]
theorem preA_getD (n s j : Nat) (d : Bool) : (preA n s).getD j d = if j < n then decide (j < s) else d := by
  unfold preA
  by_cases h : j < n
  · simp [h, Array.getD_eq_getD_getElem?]
  · simp [h, Array.getD_eq_getD_getElem?]
theorem preA_zero (n : Nat) : preA n 0 = Array.replicate n false := by
  apply Array.ext
  · simp [preA]
  · intro i h1 h2; simp [preA]
theorem preA_set (n s : Nat) : (preA n s).setIfInBounds s true = preA n (s + 1) := by
  apply Array.ext
  · simp [preA]
  · intro i h1 h2
    have hi : i < n := by simpa [preA] using h1
    by_cases e : s = i
    · subst e; simp [preA]
    · have : (i < s) ↔ (i < s + 1) := by omega
      simp [preA, Array.getElem_setIfInBounds, e, this]
/-- Each of s .. n-1 is waited for on the way to n. -/
def segSink (md : Region.Mode) (ops : Array Oper) (s n : Nat) : Bool :=
  (List.range n).all fun i => decide (i < s) || (List.range (n + 1)).any fun j => decide (i < j) && Region.waitsFor md ops j i
/-- Each operation behind n waits for one from n on. -/
def segLater (md : Region.Mode) (ops : Array Oper) (n : Nat) : Bool :=
  (List.range ops.size).all fun t => decide (t ≤ n) || (List.range t).any fun j => decide (n ≤ j) && Region.waitsFor md ops t j
structure SegInv (md : Region.Mode) (ops : Array Oper) (s n : Nat) (listed : Array Bool) : Prop where
  size : listed.size = ops.size
  closed : ∀ j oj, ops[j]? = some oj → listed.getD j false = true → ∀ e ∈ oj.after, Region.binds md e = true → listed.getD e.on false = true
  tail : ∀ t, n ≤ t → t < ops.size → listed.getD t true = false
  head : ∀ i, i < s → listed.getD i true = true
theorem segInv_set {s n i : Nat} {listed : Array Bool} (inv : SegInv md ops s n listed) (hi : i ∈ Region.ready md ops listed) (hin : i < n) : SegInv md ops s n (listed.setIfInBounds i true) := by
  obtain ⟨hun, oi, hoi, hall⟩ := mem_ready.1 hi
  refine ⟨by simp [inv.size], fun j oj hj hl e he hb => ?_, fun t ht ht' => ?_, fun k hk => ?_⟩
  · by_cases hij : i = j
    · subst hij
      obtain rfl : oj = oi := Option.some.inj (hj.symm.trans hoi)
      exact getD_set_true (hall e he hb)
    · rw [getD_set_ne false hij] at hl
      exact getD_set_true (inv.closed j oj hj hl e he hb)
  · rw [getD_set_ne true (by omega)]; exact inv.tail t ht ht'
  · have hki : i ≠ k := by
      intro e; subst e; rw [inv.head i hk] at hun; cases hun
    rw [getD_set_ne true hki]; exact inv.head k hk
theorem seg_waits {s n : Nat} {listed : Array Bool} (hs : segSink md ops s n = true) (hc : segLater md ops n = true) (hn : n < ops.size) (inv : SegInv md ops s n listed) :
    ∀ (d i : Nat), n - i = d → i < n → listed.getD i true = false → ∀ t, n ≤ t → t ∉ Region.ready md ops listed := by
  intro d
  induction d using Nat.strongRecOn with
  | _ d ih =>
    intro i hd hi hun t ht hr
    obtain ⟨_, ot, hot, hall⟩ := mem_ready.1 hr
    have htlt : t < ops.size := (Array.getElem?_eq_some_iff.1 hot).1
    by_cases htn : t = n
    · subst htn
      have h1 := List.all_eq_true.1 hs i (List.mem_range.2 hi)
      rw [Bool.or_eq_true, decide_eq_true_eq] at h1
      rcases h1 with h1 | h1
      · rw [inv.head i h1] at hun; cases hun
      obtain ⟨j, hj, hj2⟩ := List.any_eq_true.1 h1
      rw [Bool.and_eq_true, decide_eq_true_eq] at hj2
      obtain ⟨oj, hoj, e, he, hb, hon⟩ := Region.waitsFor_spec hj2.2
      have hjle : j ≤ t := by have := List.mem_range.1 hj; omega
      by_cases hjt : j = t
      · subst hjt
        obtain rfl : oj = ot := Option.some.inj (hoj.symm.trans hot)
        have h2 := hall e he hb
        rw [hon, getD_both hun] at h2; cases h2
      · cases hl : listed.getD j false with
        | true =>
          have h2 := inv.closed j oj hoj hl e he hb
          rw [hon, getD_both hun] at h2; cases h2
        | false => exact ih (t - j) (by omega) j rfl (by omega) (getD_in (by rw [inv.size]; omega) hl) t (Nat.le_refl _) hr
    · have h1 := List.all_eq_true.1 hc t (List.mem_range.2 htlt)
      rw [Bool.or_eq_true, decide_eq_true_eq] at h1
      rcases h1 with h1 | h1
      · omega
      obtain ⟨j, hj, hj2⟩ := List.any_eq_true.1 h1
      rw [Bool.and_eq_true, decide_eq_true_eq] at hj2
      obtain ⟨o', ho', e, he, hb, hon⟩ := Region.waitsFor_spec hj2.2
      obtain rfl : o' = ot := Option.some.inj (ho'.symm.trans hot)
      have h2 := hall e he hb
      rw [hon, getD_both (inv.tail j hj2.1 (by have := List.mem_range.1 hj; omega))] at h2; cases h2
theorem seg_first {s n i : Nat} {oi : Oper} {v : Value} {L : Array Bool → Act → Prop} (hi : ops[i]? = some oi) (hsel : ∀ (j : Nat) (o : Oper) cs b, ops[j]? = some o → o.op ≠ .select cs b)
    (hs : segSink md ops s n = true) (hc : segLater md ops n = true) (hn : n < ops.size) (hin : i < n)
    (hdone : ∀ listed a, L listed a → ∀ j ∈ Region.ready md ops listed, n ≤ j) :
    ∀ (f : Nat) (listed : Array Bool) (a : Act), SegInv md ops s n listed →
      (∀ j oj, ops[j]? = some oj → j ≠ i → listed.getD j true = false → (∀ e ∈ oj.after, Region.binds md e = true → e.on ≠ i) → oi.apart ops oj = true) →
      i ∈ Region.ready md ops listed → YieldsAt P ops w oi v a →
      wpAnyL P md ops w n L f (listed.setIfInBounds i true) (a.put oi.dst v) → wpAnyL P md ops w n L (f + 1) listed a := by
  intro f
  induction f with
  | zero =>
    intro listed a inv _ hr hy H
    have hun := (mem_ready.1 hr).1
    refine ⟨fun h => (by rw [h] at hr; cases hr), fun j hj => ?_⟩
    have hjn : j < n := Nat.lt_of_not_le fun h => absurd hj (seg_waits hs hc hn inv _ i rfl hin hun j h)
    refine ⟨hjn, ?_⟩
    by_cases hji : j = i
    · subst hji; exact hy.stOp hi H
    · have := hdone _ _ H j (ready_mono hj hji)
      omega
  | succ f ih =>
    intro listed a inv hfree hr hy H
    have hun := (mem_ready.1 hr).1
    refine ⟨fun h => (by rw [h] at hr; cases hr), fun j hj => ?_⟩
    have hjn : j < n := Nat.lt_of_not_le fun h => absurd hj (seg_waits hs hc hn inv _ i rfl hin hun j h)
    refine ⟨hjn, ?_⟩
    by_cases hji : j = i
    · subst hji; exact hy.stOp hi H
    · have h1 := (H.2 j (ready_mono hj hji)).2
      obtain ⟨hjun, oj, hoj, hall⟩ := mem_ready.1 hj
      have hnot : ∀ e ∈ oj.after, Region.binds md e = true → e.on ≠ i := fun e he hb heq => by
        have h1 := hall e he hb
        rw [heq, getD_both hun] at h1; cases h1
      have h2 := stOp_put hoj (hfree j oj hoj hji hjun hnot) (fun cs b => hsel i oi cs b hi) (fun cs b => hsel j oj cs b hoj) hy h1
      have hfree' : ∀ k ok, ops[k]? = some ok → k ≠ i → (listed.setIfInBounds j true).getD k true = false →
          (∀ e ∈ ok.after, Region.binds md e = true → e.on ≠ i) → oi.apart ops ok = true := fun k ok hk hki hun' hno => by
        refine hfree k ok hk hki ?_ hno
        by_cases hjk : j = k
        · subst hjk; exact hjun
        · rw [getD_set_ne true hjk] at hun'; exact hun'
      refine stOp_mono (fun a' h3 => ih (listed.setIfInBounds j true) a' (segInv_set inv hj hjn) hfree' (ready_mono hr (Ne.symm hji)) h3.1 ?_) h2
      rw [Array.setIfInBounds_comm _ _ hji]
      exact h3.2
/-- The operations from k on, l of them, are ready in their order, and free. -/
def segLex (md : Region.Mode) (ops : Array Oper) : Nat → Nat → Bool
  | 0, _ => true
  | f + 1, k => (Region.ready md ops (preA ops.size k)).contains k && Region.free md ops (preA ops.size k) k && segLex md ops f (k + 1)
theorem seg_lex {s n : Nat} {Lq : Act → Prop} (hsel : Region.noSelect ops = true) (hs : segSink md ops s n = true) (hc : segLater md ops n = true) (hn : n < ops.size) :
    ∀ (l : List Oper) (k : Nat) (a : Act), (∀ j, j < l.length → l[j]? = ops[k + j]?) → k + l.length = n → s ≤ k → SegInv md ops s n (preA ops.size k) →
    segLex md ops l.length k = true → wpStill P ops w Lq l a →
    wpAnyL P md ops w n (fun listed' a' => listed' = preA ops.size n ∧ Lq a') l.length (preA ops.size k) a
  | [], k, a, _, hk, _, _, _, h => by
    obtain rfl : k = n := by simpa using hk
    exact ⟨rfl, h⟩
  | o :: l, k, a, hl, hk, hsk, inv, hB, h => by
    have h0 : ops[k]? = some o := by simpa using (hl 0 (by simp)).symm
    simp only [List.length_cons, segLex, Bool.and_eq_true] at hB
    obtain ⟨⟨hr, hf⟩, hB'⟩ := hB
    have hkn : k < n := by simp only [List.length_cons] at hk; omega
    have hr' : k ∈ Region.ready md ops (preA ops.size k) := by simpa using hr
    have hst : stOp P ops w k (wpStill P ops w Lq l) a := by unfold stOp; simp only [h0]; exact h
    obtain ⟨v, hy, hK⟩ := yieldsAt_of_stOp h0 hst
    have inv' := segInv_set inv hr' hkn
    rw [preA_set] at inv'
    refine seg_first h0 (Region.noSelect_spec hsel) hs hc hn hkn (fun listed' a' hL j hj => ?_) l.length (preA ops.size k) a inv (Region.free_spec h0 hf) hr' hy ?_
    · obtain ⟨rfl, _⟩ := hL
      have hun := (mem_ready.1 hj).1
      rw [preA_getD] at hun
      split at hun
      · exact Nat.le_of_not_lt (of_decide_eq_false hun)
      · cases hun
    · rw [preA_set]
      exact seg_lex hsel hs hc hn l (k + 1) _ (fun j hj => by have := hl (j + 1) (by simp; omega); simpa [Nat.add_assoc, Nat.add_comm 1 j] using this) (by simp only [List.length_cons] at hk; omega) (by omega) inv' hB' hK
/-- All that is asked of a stretch s .. n-1 and the operation n behind it. -/
def segB (md : Region.Mode) (ops : Array Oper) (s n : Nat) : Bool :=
  Region.noSelect ops && decide (s ≤ n) && decide (n < ops.size) && segSink md ops s n && segLater md ops n && segLex md ops (n - s) s &&
    decide (Region.ready md ops (preA ops.size n) = [n])
/-- What is through is closed. -/
def preClosed (md : Region.Mode) (ops : Array Oper) (s : Nat) : Bool :=
  (List.range s).all fun j => match ops[j]? with | some oj => oj.after.all fun e => !Region.binds md e || decide (e.on < s) | none => true
theorem preInv {s n : Nat} (h : preClosed md ops s = true) (hsn : s ≤ n) (hn : n < ops.size) : SegInv md ops s n (preA ops.size s) := by
  refine ⟨preA_size _ _, fun j oj hj hl e he hb => ?_, fun t ht ht' => ?_, fun i hi => ?_⟩
  · have hjlt : j < ops.size := (Array.getElem?_eq_some_iff.1 hj).1
    rw [preA_getD, if_pos hjlt, decide_eq_true_eq] at hl
    have h1 := List.all_eq_true.1 h j (List.mem_range.2 hl)
    rw [hj] at h1
    have h2 := Array.all_eq_true_iff_forall_mem.1 h1 e he
    rw [hb] at h2
    have h3 : e.on < s := by simpa using h2
    rw [preA_getD, if_pos (by omega), decide_eq_true_eq]; exact h3
  · rw [preA_getD, if_pos ht', decide_eq_false_iff_not]; omega
  · rw [preA_getD, if_pos (by omega), decide_eq_true_eq]; exact hi
theorem letsOut_then {K : Act → World → Prop} {Q : Exit → Act → World → Prop} : LetsOut (Exit.then K Q) ↔ LetsOut Q := Iff.rfl
theorem wp_then {o : Oper} {a : Act} {K K' : Act → World → Prop} {Q : Exit → Act → World → Prop} (h : o.wp P a w K (Exit.then K' Q)) : o.wp P a w K Q := by
  unfold Oper.wp at *
  generalize (execOp a.eval o).run P w = r at *
  cases r with
  | ok n w' => cases n <;> exact h
  | halt x w' => cases x <;> exact h
theorem mix_seg {s n : Nat} {Q : Exit → Act → World → Prop} {a : Act} {o : Oper} (hB : segB md ops s n = true) (hP : preClosed md ops s = true) (ho : ops[n]? = some o) {l : List Oper} (hl : l = (ops.toList.drop s).take (n - s))
    (h : wpStill P ops w (fun a' => wpList P ops (Exit.then (fun a'' w'' => wpAny P md ops Q (ops.size - (n + 1)) (preA ops.size (n + 1)) a'' w'') Q) [o] a' w) l a) :
    wpAny P md ops Q (ops.size - s) (preA ops.size s) a w := by
  simp only [segB, Bool.and_eq_true, decide_eq_true_eq] at hB
  obtain ⟨⟨⟨⟨⟨⟨hsel, hsn⟩, hn⟩, hs⟩, hc⟩, hlex⟩, hrd⟩ := hB
  have hll : l.length = n - s := by rw [hl]; simp; omega
  have H := seg_lex (P := P) (w := w) hsel hs hc hn l s a (fun j hj => by
    rw [hl, List.getElem?_take, if_pos (by omega), List.getElem?_drop, Array.getElem?_toList]) (by omega) (Nat.le_refl _) (preInv hP hsn hn) (by rw [hll]; exact hlex) h
  have := wpAny_of_head (Q' := Q) (g := ops.size - n) (fun listed a' hL => by
    obtain ⟨rfl, h'⟩ := hL
    rw [show ops.size - n = (ops.size - (n + 1)) + 1 from by omega]
    refine ⟨fun h0 => (by rw [hrd] at h0; cases h0), fun i hi => ?_⟩
    rw [hrd] at hi
    obtain rfl : i = n := by simpa using hi
    rw [preA_set]
    unfold wpOp
    rw [ho]
    dsimp only
    unfold wpList at h'
    split
    · rename_i hw
      rw [if_pos hw] at h'
      rcases h' with h' | h'
      · exact Or.inl (wp_then h')
      · exact Or.inr h'
    · rename_i hw
      rw [if_neg hw] at h'
      exact h') _ _ _ H
  rw [hll, show n - s + (ops.size - n) = ops.size - s by omega] at this
  exact this
/-- The last stretch. -/
def lastB (md : Region.Mode) (ops : Array Oper) (s : Nat) : Bool := Region.noSelect ops && decide (s ≤ ops.size) && segLex md ops (ops.size - s) s && (Region.ready md ops (preA ops.size ops.size)).isEmpty
theorem last_lex {Q : Act → Prop} (hs : Region.noSelect ops = true) (he : Region.ready md ops (preA ops.size ops.size) = []) : ∀ (l : List Oper) (k : Nat) (a : Act), (∀ j, l[j]? = ops[k + j]?) → k + l.length = ops.size →
    segLex md ops l.length k = true → wpStill P ops w Q l a → wpAnyS P md ops w Q l.length (preA ops.size k) a
  | [], k, _, _, hk, _, h => by
    obtain rfl : k = ops.size := by simpa using hk
    exact ⟨he, h⟩
  | o :: l, k, a, hl, hk, hB, h => by
    have h0 : ops[k]? = some o := by simpa using (hl 0).symm
    simp only [List.length_cons, segLex, Bool.and_eq_true] at hB
    obtain ⟨⟨hr, hf⟩, hB'⟩ := hB
    have hst : stOp P ops w k (wpStill P ops w Q l) a := by unfold stOp; simp only [h0]; exact h
    obtain ⟨v, hy, hK⟩ := yieldsAt_of_stOp h0 hst
    refine wpAnyS_first h0 (Region.noSelect_spec hs) l.length (preA ops.size k) a (Region.free_spec h0 hf) (by simpa using hr) hy ?_
    rw [preA_set]
    exact last_lex hs he l (k + 1) _ (fun j => by have := hl (j + 1); simpa [Nat.add_assoc, Nat.add_comm 1 j] using this) (by simp only [List.length_cons] at hk; omega) hB' hK
theorem mix_last {s : Nat} {Q : Exit → Act → World → Prop} {a : Act} (hB : lastB md ops s = true) {l : List Oper} (hl : l = ops.toList.drop s) (h : wpStill P ops w (fun a' => Q .normal a' w) l a) :
    wpAny P md ops Q (ops.size - s) (preA ops.size s) a w := by
  simp only [lastB, Bool.and_eq_true, decide_eq_true_eq, List.isEmpty_iff] at hB
  obtain ⟨⟨⟨hsel, hs⟩, hlex⟩, he⟩ := hB
  have hll : l.length = ops.size - s := by rw [hl]; simp
  have H := last_lex (P := P) (w := w) hsel he l s a (fun j => by rw [hl, List.getElem?_drop, Array.getElem?_toList]) (by omega) (by rw [hll]; exact hlex) h
  rw [hll] at H
  exact wpAny_of_still (Q := fun a' => Q .normal a' w) (fun _ h => h) _ _ _ H
/-- A drawn region whose first s operations are through. -/
def MixAt (P : Program) (l0 : List Oper) (Q : Exit → Act → World → Prop) (s : Nat) (a : Act) (w : World) : Prop := wpAny P .any l0.toArray Q (l0.toArray.size - s) (preA l0.toArray.size s) a w
theorem mixSeg {l0 : List Oper} {Q : Exit → Act → World → Prop} {a : Act} {o : Oper} (s m : Nat) (hB : segB .any l0.toArray s (s + m) = true) (hP : preClosed .any l0.toArray s = true) (ho : l0[s + m]? = some o)
    (h : wpStill P l0.toArray w (fun a' => wpList P l0.toArray (Exit.then (MixAt P l0 Q (s + m + 1)) Q) [o] a' w) ((l0.drop s).take m) a) : MixAt P l0 Q s a w :=
  mix_seg hB hP (by simpa using ho) (l := (l0.drop s).take m) (by simp) h
theorem mixLast {l0 : List Oper} {Q : Exit → Act → World → Prop} {a : Act} (s : Nat) (hB : lastB .any l0.toArray s = true) (h : wpStill P l0.toArray w (fun a' => Q .normal a' w) (l0.drop s) a) : MixAt P l0 Q s a w :=
  mix_last hB (by simp) h
theorem mixStart {id : Nat} {Q : Exit → Act → World → Prop} {a : Act} {l : List Oper} (hm : P.follows .mixedOrders = true) (h : MixAt P l Q 0 a w.drew) : (Code.region id l.toArray true).wp P Q a w := by
  refine wp_region_any hm ?_
  unfold MixAt at h
  rw [preA_zero] at h
  exact h
end
end Go.Proofs.YtnoejikcdigceaaDoor
