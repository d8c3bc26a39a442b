/- The plain law of AsmNames: which words can be labels. -/
import Derived.Test.YtnoejikcdigceaaDoorWordsP
set_option linter.unusedVariables false
set_option linter.unusedSimpArgs false
namespace Go.Proofs.YtnoejikcdigceaaDoor
open Go.RowKit
def okAt (s : ByteArray) (i : Nat) : Bool := decide ((97 ≤ byteAt s i ∧ byteAt s i ≤ 122) ∨ (0 < i ∧ 48 ≤ byteAt s i ∧ byteAt s i ≤ 57))
def goodTo (s : ByteArray) (k : Nat) : Bool := decide (1 ≤ (s.size : Int) ∧ (s.size : Int) ≤ 16) && (List.range k).all (okAt s)
def regLike (s : ByteArray) : Bool := decide (byteAt s 0 = 114 ∧ 1 < (s.size : Int) ∧ 48 ≤ byteAt s 1 ∧ byteAt s 1 ≤ 57)
theorem goodTo_succ (s : ByteArray) (k : Nat) : goodTo s (k + 1) = (goodTo s k && okAt s k) := by
  unfold goodTo; rw [List.range_succ, List.all_append]; simp [Bool.and_assoc]
theorem byteAt_mem (s : ByteArray) (c : UInt8) (h : c ∈ s.data.toList) : ∃ i, i < s.size ∧ (c.toNat : Int) = byteAt s i := by
  obtain ⟨i, hi, rfl⟩ := List.getElem_of_mem h
  have hi' : i < s.size := by simpa using hi
  exact ⟨i, hi', by unfold byteAt; rw [List.getD_eq_getElem?_getD, List.getElem?_eq_getElem hi]; rfl⟩
theorem good_name (s : ByteArray) (h : goodTo s s.size = true) (hr : regLike s = false) : nameV s = true := by
  unfold goodTo at h
  rw [Bool.and_eq_true, decide_eq_true_eq, List.all_eq_true] at h
  obtain ⟨⟨h1, h2⟩, h3⟩ := h
  have h4 : ∀ i, i < s.size → (97 ≤ byteAt s i ∧ byteAt s i ≤ 122) ∨ (0 < i ∧ 48 ≤ byteAt s i ∧ byteAt s i ≤ 57) := fun i hi => of_decide_eq_true (h3 i (List.mem_range.2 hi))
  have h5 := h4 0 (by omega)
  have hb : nameBad s = false := by unfold nameBad; rw [decide_eq_false_iff_not]; omega
  have ha : s.data.toList.all nameCh = true := by
    rw [List.all_eq_true]
    intro c hc
    obtain ⟨i, hi, e⟩ := byteAt_mem s c hc
    have := h4 i hi
    unfold nameCh
    rw [decide_eq_true_eq]
    omega
  have hg : (regV s).2 = false := by
    unfold regV
    split
    · rfl
    · rename_i hbad
      unfold regBad at hbad
      rw [decide_eq_true_eq] at hbad
      unfold regLike at hr
      rw [decide_eq_false_iff_not] at hr
      have hs1 : 1 < s.size := by omega
      rw [drop_cons s 1 hs1, regGo, if_neg (by rw [byteAt_of]; omega)]
      rfl
  unfold nameV
  rw [hb, if_neg (by decide), ha, if_pos rfl, hg]
  rfl
theorem name_good (s : ByteArray) (h : nameV s = true) : goodTo s s.size = true ∧ 1 ≤ s.size := by
  unfold nameV at h
  split at h
  · cases h
  · rename_i hb
    split at h
    · rename_i ha
      unfold nameBad at hb
      rw [decide_eq_true_eq] at hb
      rw [List.all_eq_true] at ha
      refine ⟨?_, by omega⟩
      unfold goodTo
      rw [Bool.and_eq_true, decide_eq_true_eq, List.all_eq_true]
      refine ⟨by omega, fun i hi => ?_⟩
      have hi' : i < s.size := List.mem_range.1 hi
      have hm : s[i] ∈ s.data.toList := by
        rw [show s[i] = s.data.toList[i]'(by simpa using hi') from by rw [Array.getElem_toList]; rfl]
        exact List.getElem_mem _
      have := of_decide_eq_true (ha _ hm)
      unfold okAt
      rw [decide_eq_true_eq]
      rw [byteAt_of s i hi'] at this
      by_cases h0 : i = 0
      · subst h0; omega
      · omega
    · cases h
def nameT (s : ByteArray) : ByteArray := s ++ ⟨#[58, 10, 106, 109, 112, 32]⟩ ++ s ++ ⟨#[10]⟩
/-- None of line feed, blank, semicolon, colon. -/
def ClearW (l : List UInt8) : Prop := (32 : UInt8) ∉ l ∧ (59 : UInt8) ∉ l ∧ (10 : UInt8) ∉ l ∧ (58 : UInt8) ∉ l
theorem nameT_cut (s : ByteArray) (h : ClearW s.data.toList) : cutLines (nameT s) = [ofL (s.data.toList ++ [58]), ofL ([106, 109, 112, 32] ++ s.data.toList), ofL []] := by
  have e : nameT s = ofL ([s.data.toList ++ [58], [106, 109, 112, 32] ++ s.data.toList].flatMap fun l => l ++ [10]) := by
    apply ByteArray.ext
    apply Array.ext'
    rw [ofL_data]
    unfold nameT
    simp
  rw [e, cutLines_text]
  · rfl
  · intro l hl
    simp at hl
    rcases hl with rfl | rfl
    · simp [h.2.2.1]
    · simp [h.2.2.1]
theorem lineV_nil (st : RdSt) (i : Int) : lineV st (ofL []) i = .ok st := by
  have : wordsV (ofL []) = [] := by kernel_rfl
  unfold lineV; rw [this]; rfl
theorem lineV_colon (st : RdSt) (l : List UInt8) (h : ClearW l) (i : Int) : lineV st (ofL (l ++ [58])) i = labV st (ofL l) i := by
  have hw : wordsV (ofL (l ++ [58])) = [ofL (l ++ [58])] :=
    wordsV_join [l ++ [58]] (fun w hw => by
      obtain rfl := List.mem_singleton.1 hw
      exact ⟨by simp [h.1], by simp [h.2.1], by simp [h.2.2.1], by simp⟩)
  have hsz : (ofL (l ++ [58])).size = l.length + 1 := by rw [ofL_size]; simp
  have hb : byteAt (ofL (l ++ [58])) ((ofL (l ++ [58])).size - 1) = 58 := by
    rw [hsz]; unfold byteAt; rw [ofL_data]; simp
  unfold lineV
  rw [hw]
  show (if [] = [] ∧ byteAt _ _ = 58 then labV st _ i else _) = _
  rw [if_pos ⟨rfl, hb⟩, extract_ofL, hsz]
  congr 2
  rw [ofL_data]; simp
theorem names_er (s : ByteArray) (h : ClearW s.data.toList) (hn : nameV s = false) : parseV (nameT s) = .error (true, 0) := by
  unfold parseV
  rw [nameT_cut s h]
  unfold parseLs linesGo
  rw [lineV_colon _ _ h]
  unfold labV
  rw [show labFind stNil.labels (ofL s.data.toList) 0 = none from rfl, data_ofL, hn]
  rfl
theorem lineWs_ins (st : RdSt) (line : Int) (w0 : ByteArray) (rest : List ByteArray) (h : rest ≠ []) : lineWs st line (w0 :: rest) = insV st w0 rest line := if_neg (fun x => h x.1)
theorem opndV_place (st : RdSt) (X : Ins) (kd line : Int) (s : ByteArray) (h : 8 ≤ kd) (hn : nameV s = true) : opndV st X kd s line = .ok ({ st with wants := st.wants ++ [((st.code.length : Int), line, s)] }, X) := if_pos ⟨h, hn⟩
theorem op_jmp : opV (ofL [106, 109, 112]) = 12 := by kernel_rfl
theorem names_ok (s : ByteArray) (h : ClearW s.data.toList) (hn : nameV s = true) : parseV (nameT s) = .ok ([⟨12, 0, 0, 0, 0, 0, 0⟩], [(s, 0)]) := by
  have h1 := (name_good s hn).2
  have hl0 : s.data.toList ≠ [] := by
    intro e
    have h2 : s.data.toList.length = s.size := by simp
    rw [e] at h2; simp at h2; omega
  have hw : wordsV (ofL ([106, 109, 112, 32] ++ s.data.toList)) = [ofL [106, 109, 112], s] :=
    wordsV_join [[106, 109, 112], s.data.toList] (fun w hw => by
      simp at hw
      rcases hw with rfl | rfl
      · refine ⟨by decide, by decide, by decide, by decide⟩
      · exact ⟨h.1, h.2.1, h.2.2.1, hl0⟩)
  have e0 : lineV stNil (ofL (s.data.toList ++ [58])) 0 = .ok ⟨[], [(s, 0)], [0], []⟩ := by
    rw [lineV_colon _ _ h]
    unfold labV
    rw [show labFind stNil.labels (ofL s.data.toList) 0 = none from rfl, data_ofL, hn]
    rfl
  have e1 : lineV ⟨[], [(s, 0)], [0], []⟩ (ofL ([106, 109, 112, 32] ++ s.data.toList)) 1 = .ok ⟨[⟨12, 0, 0, 0, 0, 0, 0⟩], [(s, 0)], [0], [(0, 1, s)]⟩ := by
    unfold lineV
    rw [hw]
    rw [lineWs_ins _ _ _ _ (by simp)]
    unfold insV
    have k1 : opndsV 12 = (8, 0, 0) := by kernel_rfl
    have k2 : cntV (8, 0, 0) = 1 := by kernel_rfl
    rw [op_jmp, k1, k2, if_neg (by decide)]
    have hc : cntBad 1 [s] = false := by unfold cntBad; rw [decide_eq_false_iff_not]; intro h; exact h.1 rfl
    rw [hc, if_neg (by decide)]
    unfold opndsGo
    rw [opndV_place _ _ (kindAt (8, 0, 0) 0) _ _ (by decide) (show nameV (wordAt [s] 0) = true from hn)]
    rfl
  have e2 := lineV_nil ⟨[⟨12, 0, 0, 0, 0, 0, 0⟩], [(s, 0)], [0], [(0, 1, s)]⟩ 2
  unfold parseV
  rw [nameT_cut s h]
  unfold parseLs
  have e3 : linesGo [ofL (s.data.toList ++ [58]), ofL ([106, 109, 112, 32] ++ s.data.toList), ofL []] 0 stNil = .ok ⟨[⟨12, 0, 0, 0, 0, 0, 0⟩], [(s, 0)], [0], [(0, 1, s)]⟩ := by
    unfold linesGo
    rw [e0]
    show linesGo _ 1 _ = _
    unfold linesGo
    rw [e1]
    show linesGo _ 2 _ = _
    unfold linesGo
    rw [e2]
    rfl
  rw [e3]
  have e4 : labFind [(s, (0 : Int))] s 0 = some 0 := by unfold labFind; rw [if_pos rfl]
  have e5 : parseEnd ⟨[⟨12, 0, 0, 0, 0, 0, 0⟩], [(s, 0)], [0], [(0, 1, s)]⟩ = some ([⟨12, 0, 0, 0, 0, 0, 0⟩], [(s, 0)]) := by
    have e6 : wantsGo [(s, (0 : Int))] [((0 : Int), (1 : Int), s)] [⟨12, 0, 0, 0, 0, 0, 0⟩] = some [⟨12, 0, 0, 0, 0, 0, 0⟩] := by
      unfold wantsGo
      dsimp only
      rw [e4]
      rfl
    unfold parseEnd
    dsimp only
    rw [e6]
    rfl
  dsimp only
  rw [e5]
end Go.Proofs.YtnoejikcdigceaaDoor
