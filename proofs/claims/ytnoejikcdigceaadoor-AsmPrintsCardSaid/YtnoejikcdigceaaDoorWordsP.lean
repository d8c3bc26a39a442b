/- Words of a line, on lists of letters: plain. -/
import Derived.Test.YtnoejikcdigceaaDoorSilentC
set_option linter.unusedVariables false
set_option linter.unusedSimpArgs false
namespace Go.Proofs.YtnoejikcdigceaaDoor
open Go.RowKit
theorem idx_none : ∀ l : List UInt8, (59 : UInt8) ∉ l → Lib.indexByte l 59 = -1
  | [], _ => rfl
  | c :: l, h => by
    have h1 : ¬ c = 59 := fun e => h (by simp [e])
    have ih := idx_none l (fun e => h (by simp [e]))
    unfold Lib.indexByte
    simp [h1, ih]
theorem cutV_plain (s : ByteArray) (h : (59 : UInt8) ∉ s.data.toList) : cutV s = s := by
  unfold cutV; rw [idx_none _ h, if_neg (by omega)]
def wordsL : List UInt8 → List UInt8 → List (List UInt8)
  | cur, [] => if cur = [] then [] else [cur]
  | cur, c :: l => if c = 32 then (if cur = [] then wordsL [] l else cur :: wordsL [] l) else wordsL (cur ++ [c]) l
theorem extract_ofL (t : ByteArray) (a i : Nat) : t.extract a i = ofL ((t.data.toList.drop a).take (i - a)) := by
  apply ByteArray.ext
  apply Array.ext'
  show (t.extract a i).data.toList = (ofL _).data.toList
  unfold ofL
  simp [List.drop_take]
theorem wordsGo_eq (t : ByteArray) : ∀ (f i a : Nat), f = t.size + 1 - i → a ≤ i → i ≤ t.size →
    wordsGo t f i a = (wordsL ((t.data.toList.drop a).take (i - a)) (t.data.toList.drop i)).map ofL
  | 0, i, a, hf, ha, hi => by omega
  | f + 1, i, a, hf, ha, hi => by
    have hlen : t.data.toList.length = t.size := by simp
    unfold wordsGo
    by_cases hlt : i < t.size
    · have hd := drop_cons t i hlt
      have hb := byteAt_of t i hlt
      have e0 : ∀ x : List UInt8, wordsL x (t.data.toList.drop i) = if t[i] = 32 then (if x = [] then wordsL [] (t.data.toList.drop (i + 1)) else x :: wordsL [] (t.data.toList.drop (i + 1))) else wordsL (x ++ [t[i]]) (t.data.toList.drop (i + 1)) := by
        intro x; rw [hd, wordsL]
      rw [e0]
      by_cases hc : t[i] = 32
      · have h32 : byteAt t i = 32 := by rw [← hb, hc]; rfl
        rw [if_neg (fun h => h.2 h32), if_pos hc]
        have ih := wordsGo_eq t f (i + 1) (i + 1) (by omega) (by omega) (by omega)
        rw [Nat.sub_self, List.take_zero] at ih
        by_cases hai : a < i
        · rw [if_pos hai, if_neg (by intro h; have := congrArg List.length h; simp at this; omega), ih, extract_ofL]; rfl
        · rw [if_neg hai, if_pos (by rw [show i - a = 0 from by omega]; rfl), ih]
      · have h32 : byteAt t i ≠ 32 := by
          rw [← hb]; intro h; apply hc
          apply UInt8.toNat_inj.1; show (t[i]).toNat = 32; omega
        rw [if_pos ⟨hlt, h32⟩, if_neg hc, wordsGo_eq t f (i + 1) a (by omega) (by omega) (by omega)]
        congr 2
        rw [show i + 1 - a = (i - a) + 1 from by omega, List.take_succ_eq_append_getElem (by simp; omega)]
        congr 1
        simp only [List.getElem_drop]
        congr 1
        rw [Array.getElem_toList]
        show t.data[a + (i - a)]'_ = t.data[i]'_
        congr 1
        omega
    · have he : i = t.size := by omega
      have hd := drop_end t i (by omega)
      rw [if_neg (fun h => hlt h.1), hd]
      obtain rfl : f = 0 := by omega
      have e1 : ∀ j, wordsGo t 0 j j = [] := fun _ => rfl
      have e2 : ∀ x : List UInt8, wordsL x [] = if x = [] then [] else [x] := fun _ => rfl
      rw [e1, e2]
      by_cases hai : a < i
      · rw [if_pos hai, if_neg (by intro h; have := congrArg List.length h; simp at this; omega), extract_ofL]; rfl
      · rw [if_neg hai, if_pos (by rw [show i - a = 0 from by omega]; rfl)]; rfl
theorem wordsV_eq (s : ByteArray) (h : (59 : UInt8) ∉ s.data.toList) : wordsV s = (wordsL [] s.data.toList).map ofL := by
  unfold wordsV
  rw [cutV_plain s h, wordsGo_eq s (s.size + 1) 0 0 (by omega) (by omega) (by omega)]
  rfl
theorem wordsL_run : ∀ (w cur l : List UInt8), (32 : UInt8) ∉ w → wordsL cur (w ++ l) = wordsL (cur ++ w) l
  | [], cur, l, _ => by simp
  | c :: w, cur, l, h => by
    have h1 : ¬ c = 32 := fun e => h (by simp [e])
    show wordsL cur (c :: (w ++ l)) = _
    rw [wordsL, if_neg h1, wordsL_run w (cur ++ [c]) l (fun e => h (by simp [e]))]
    simp
theorem wordsL_word (w l : List UInt8) (hw : (32 : UInt8) ∉ w) (h0 : w ≠ []) : wordsL [] (w ++ 32 :: l) = w :: wordsL [] l := by
  rw [wordsL_run w [] (32 :: l) hw, wordsL, if_pos rfl, List.nil_append, if_neg h0]
theorem wordsL_last (w : List UInt8) (hw : (32 : UInt8) ∉ w) (h0 : w ≠ []) : wordsL [] w = [w] := by
  have := wordsL_run w [] [] hw
  rw [List.append_nil, List.nil_append] at this
  rw [this, wordsL, if_neg h0]
/-- Words with blanks between. -/
def joinW : List (List UInt8) → List UInt8
  | [] => []
  | [w] => w
  | w :: ws => w ++ 32 :: joinW ws
theorem wordsL_join : ∀ ws : List (List UInt8), (∀ w ∈ ws, (32 : UInt8) ∉ w ∧ w ≠ []) → wordsL [] (joinW ws) = ws
  | [], _ => rfl
  | [w], h => wordsL_last w (h w (by simp)).1 (h w (by simp)).2
  | w :: v :: ws, h => by
    show wordsL [] (w ++ 32 :: joinW (v :: ws)) = _
    rw [wordsL_word w _ (h w (by simp)).1 (h w (by simp)).2, wordsL_join (v :: ws) (fun x hx => h x (by simp [hx]))]
theorem joinW_mem : ∀ (ws : List (List UInt8)) (c : UInt8), c ∈ joinW ws → c = 32 ∨ ∃ w ∈ ws, c ∈ w
  | [], c, h => by cases h
  | [w], c, h => Or.inr ⟨w, by simp, h⟩
  | w :: v :: ws, c, h => by
    have h' : c ∈ w ++ 32 :: joinW (v :: ws) := h
    rcases List.mem_append.1 h' with h | h
    · exact Or.inr ⟨w, by simp, h⟩
    · rcases List.mem_cons.1 h with h | h
      · exact Or.inl h
      · rcases joinW_mem (v :: ws) c h with h | ⟨x, hx, h⟩
        · exact Or.inl h
        · exact Or.inr ⟨x, by simp [hx], h⟩
/-- Words that are plain: no blank, remark or line feed, and some letter. -/
def PlainW (w : List UInt8) : Prop := (32 : UInt8) ∉ w ∧ (59 : UInt8) ∉ w ∧ (10 : UInt8) ∉ w ∧ w ≠ []
theorem wordsV_join (ws : List (List UInt8)) (h : ∀ w ∈ ws, PlainW w) : wordsV (ofL (joinW ws)) = ws.map ofL := by
  have h59 : (59 : UInt8) ∉ (ofL (joinW ws)).data.toList := by
    intro hc
    rcases joinW_mem ws 59 (by simpa [ofL] using hc) with e | ⟨w, hw, e⟩
    · cases e
    · exact (h w hw).2.1 e
  rw [wordsV_eq _ h59]
  show (wordsL [] (ofL (joinW ws)).data.toList).map ofL = _
  have : (ofL (joinW ws)).data.toList = joinW ws := by simp [ofL]
  rw [this, wordsL_join ws (fun w hw => ⟨(h w hw).1, (h w hw).2.2.2⟩)]
theorem joinW_nl (ws : List (List UInt8)) (h : ∀ w ∈ ws, PlainW w) : (10 : UInt8) ∉ joinW ws := by
  intro hc
  rcases joinW_mem ws 10 hc with e | ⟨w, hw, e⟩
  · cases e
  · exact (h w hw).2.2.1 e
theorem ofL_data (l : List UInt8) : (ofL l).data.toList = l := by simp [ofL]
theorem data_ofL (s : ByteArray) : ofL s.data.toList = s := rfl
theorem ofL_size (l : List UInt8) : (ofL l).size = l.length := by
  show (ofL l).data.size = _; unfold ofL; simp
/-- A text of lines. -/
theorem cutLines_text (ls : List (List UInt8)) (h : ∀ l ∈ ls, (10 : UInt8) ∉ l) : cutLines (ofL (ls.flatMap fun l => l ++ [10])) = ls.map ofL ++ [ofL []] := by
  have := splitL_lines [] ls h
  rw [List.append_nil] at this
  rw [cutLines_eq, ofL_data, this]
  simp [splitL]
end Go.Proofs.YtnoejikcdigceaaDoor
