/- The plain law of AsmSilent, second half: how a text with silent lines laid in is cut into lines. -/
import Derived.Test.YtnoejikcdigceaaDoorSilentP
set_option linter.unusedVariables false
set_option linter.unusedSimpArgs false
namespace Go.Proofs.YtnoejikcdigceaaDoor
open Go.RowKit
def consHead (c : UInt8) : List (List UInt8) → List (List UInt8)
  | [] => [[c]]
  | x :: xs => (c :: x) :: xs
/-- Cut at each line feed. -/
def splitL : List UInt8 → List (List UInt8)
  | [] => [[]]
  | c :: l => if c = 10 then [] :: splitL l else consHead c (splitL l)
theorem splitL_ne (l : List UInt8) : splitL l ≠ [] := by
  cases l with
  | nil => simp [splitL]
  | cons c l =>
    unfold splitL
    split
    · simp
    · cases splitL l <;> simp [consHead]
theorem consHead_app (c : UInt8) (x y : List (List UInt8)) (h : x ≠ []) : consHead c (x ++ y) = consHead c x ++ y := by
  cases x with
  | nil => exact absurd rfl h
  | cons a x => rfl
theorem splitL_app (B : List UInt8) : ∀ A : List UInt8, splitL (A ++ 10 :: B) = splitL A ++ splitL B
  | [] => by
    show splitL (10 :: B) = [[]] ++ splitL B
    rw [splitL, if_pos rfl]; rfl
  | c :: A => by
    show splitL (c :: (A ++ 10 :: B)) = splitL (c :: A) ++ splitL B
    rw [splitL, splitL, splitL_app B A]
    split
    · rfl
    · exact consHead_app c _ _ (splitL_ne A)
theorem splitL_flat : ∀ l : List UInt8, (10 : UInt8) ∉ l → splitL l = [l]
  | [], _ => rfl
  | c :: l, h => by
    have h1 : c ≠ 10 := fun e => h (by simp [e])
    rw [splitL, if_neg h1, splitL_flat l (fun e => h (by simp [e]))]
    rfl
theorem splitL_lines (B : List UInt8) : ∀ S : List (List UInt8), (∀ s ∈ S, (10 : UInt8) ∉ s) → splitL (S.flatMap (fun s => s ++ [10]) ++ B) = S ++ splitL B
  | [], _ => rfl
  | s :: S, h => by
    have e : (s :: S).flatMap (fun s => s ++ [10]) ++ B = s ++ (10 :: (S.flatMap (fun s => s ++ [10]) ++ B)) := by simp
    rw [e, splitL_app, splitL_flat s (h s (by simp)), splitL_lines B S (fun x hx => h x (by simp [hx]))]
    rfl
theorem index_nl (c : UInt8) (l : List UInt8) : Lib.index (c :: l) [10] = if c = 10 then 0 else if Lib.index l [10] = -1 then -1 else Lib.index l [10] + 1 := by
  by_cases h : c = 10
  · subst h; simp [Lib.index]
  · have h' : ¬ (10 : UInt8) = c := fun e => h e.symm
    simp [Lib.index, h, h', List.isPrefixOf]
theorem split_eq : ∀ l : List UInt8, Lib.splitK [10] 0 (Lib.count l [10]) l = splitL l
  | [] => rfl
  | c :: l => by
    have ih := split_eq l
    have hi := index_nl c l
    by_cases h : c = 10
    · rw [if_pos h] at hi
      rw [Lib.count_hit (i := 0) (by simp) hi, Nat.add_comm 1, Lib.splitK, hi, splitL, if_pos h]
      simpa using ih
    · rw [if_neg h] at hi
      rw [splitL, if_neg h, ← ih]
      have hge := Lib.index_ge l [10]
      by_cases hm : Lib.index l [10] = -1
      · rw [if_pos hm] at hi
        rw [Lib.count_miss hi, Lib.count_miss hm]
        rfl
      · rw [if_neg hm] at hi
        obtain ⟨i, hix⟩ : ∃ i : Nat, Lib.index l [10] = i := ⟨(Lib.index l [10]).toNat, by omega⟩
        have hi2 : Lib.index (c :: l) [10] = ((i + 1 : Nat) : Int) := by rw [hi, hix]; simp
        have n1 : ¬ (Lib.index (c :: l) [10] == -1) = true := by rw [hi2, beq_iff_eq]; omega
        have n2 : ¬ (Lib.index l [10] == -1) = true := by rw [beq_iff_eq]; exact hm
        rw [Lib.count_hit (by simp) hi2, Lib.count_hit (by simp) hix, Nat.add_comm 1, Nat.add_comm 1, Lib.splitK, Lib.splitK, if_neg n1, if_neg n2, hi2, hix]
        simp [consHead]
def ofL (l : List UInt8) : ByteArray := ⟨l.toArray⟩
theorem map_ofL (l : List ByteArray) : (l.map (·.data.toList)).map ofL = l := by
  rw [List.map_map]
  conv => rhs; rw [← List.map_id l]
  exact List.map_congr_left (fun x _ => rfl)
theorem cutLines_eq (s : ByteArray) : cutLines s = (splitL s.data.toList).map ofL := by
  rw [← split_eq, ← map_ofL (cutLines s)]
  unfold cutLines
  rw [Lib.splitB_data]
  rfl
/-- Lines laid in between two lines. -/
theorem cut_mid (t1 m t2 : ByteArray) (S : List ByteArray) (h1 : t1.data.toList = [] ∨ ∃ A, t1.data.toList = A ++ [10])
    (hm : m.data.toList = (S.map (·.data.toList)).flatMap (fun s => s ++ [10])) (hS : ∀ s ∈ S, (10 : UInt8) ∉ s.data.toList) :
    ∃ X Y, cutLines (t1 ++ t2) = X ++ Y ∧ cutLines (t1 ++ m ++ t2) = X ++ (S ++ Y) := by
  have ea : (t1 ++ t2).data.toList = t1.data.toList ++ t2.data.toList := by simp
  have eb : (t1 ++ m ++ t2).data.toList = t1.data.toList ++ (m.data.toList ++ t2.data.toList) := by simp
  have hS' : ∀ s ∈ S.map (·.data.toList), (10 : UInt8) ∉ s := by
    intro s hs
    obtain ⟨x, hx, rfl⟩ := List.mem_map.1 hs
    exact hS x hx
  have hl := splitL_lines t2.data.toList (S.map (·.data.toList)) hS'
  rw [← hm] at hl
  rw [cutLines_eq, cutLines_eq, ea, eb]
  rcases h1 with h1 | ⟨A, h1⟩
  · refine ⟨[], (splitL t2.data.toList).map ofL, ?_, ?_⟩
    · rw [h1]; rfl
    · rw [h1, List.nil_append, hl, List.map_append, map_ofL]; rfl
  · refine ⟨(splitL A).map ofL, (splitL t2.data.toList).map ofL, ?_, ?_⟩
    · rw [h1, List.append_assoc, List.singleton_append, splitL_app, List.map_append]
    · rw [h1, List.append_assoc, List.singleton_append, splitL_app, hl, List.map_append, List.map_append, map_ofL]
/-- The law: silent lines, laid in before a line, change nothing. -/
theorem parse_silent (t1 m t2 : ByteArray) (S : List ByteArray) (h1 : t1.data.toList = [] ∨ ∃ A, t1.data.toList = A ++ [10])
    (hm : m.data.toList = (S.map (·.data.toList)).flatMap (fun s => s ++ [10])) (hS : ∀ s ∈ S, (10 : UInt8) ∉ s.data.toList) (hw : ∀ s ∈ S, wordsV s = []) :
    SimP (parseV (t1 ++ t2)) (parseV (t1 ++ m ++ t2)) := by
  obtain ⟨X, Y, e1, e2⟩ := cut_mid t1 m t2 S h1 hm hS
  unfold parseV
  rw [e1, e2]
  exact parseLs_silent X S Y hw
end Go.Proofs.YtnoejikcdigceaaDoor
