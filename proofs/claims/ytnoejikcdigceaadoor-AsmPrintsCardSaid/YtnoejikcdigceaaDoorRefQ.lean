/- distaffref04.Right and code.may: the same; the first instruction that may not be. Plain. -/
import Derived.Test.YtnoejikcdigceaaDoorRefRt
set_option linter.unusedVariables false
set_option linter.unusedSimpArgs false
namespace Go.Proofs.YtnoejikcdigceaaDoor
open Go.RowKit
theorem right_bad (X : Ins) (n : Int) (lib : Bool) (h : ¬ (1 ≤ X.op ∧ X.op ≤ 58)) : rightV X n lib = false := by
  have : (ofV X.op).2.2.2.2.2.2.2 = false := by
    unfold ofV
    repeat first
      | rfl
      | rw [if_neg (by omega)]
  unfold rightV rightO k1
  rw [this]; simp
theorem may_badop (X : Ins) (n : Int) (lib : Bool) (h : ¬ (1 ≤ X.op ∧ X.op ≤ 58)) : mayV X n lib = false := by
  unfold mayV opMay
  rw [decide_eq_false h]; simp
set_option maxHeartbeats 64000000 in
theorem right_at (k : Nat) (hk : k < 58) (a b c v m wh n : Int) (lib : Bool) : rightV ⟨(k : Int) + 1, a, b, c, v, m, wh⟩ n lib = mayV ⟨(k : Int) + 1, a, b, c, v, m, wh⟩ n lib := by
  rcases k with _ | _ | _ | _ | _ | _ | _ | _ | _ | _ | _ | _ | _ | _ | _ | _ | _ | _ | _ | _ | _ | _ | _ | _ | _ | _ | _ | _ | _ | _ | _ | _ | _ | _ | _ | _ | _ | _ | _ | _ | _ | _ | _ | _ | _ | _ | _ | _ | _ | _ | _ | _ | _ | _ | _ | _ | _ | _ | k
  iterate 58
    · clear hk
      rw [Bool.eq_iff_iff]
      simp [rightV, rightO, k1, k2, k3, k4, k5, k6, v1, v2, rg, ofV, mayV, opMay, fldMay, mrkMay, regOk, numOk, fieldsV, lessB, lessC]
      cases lib <;> simp <;> omega
  · omega
theorem right_may (X : Ins) (n : Int) (lib : Bool) : rightV X n lib = mayV X n lib := by
  by_cases h : 1 ≤ X.op ∧ X.op ≤ 58
  · obtain ⟨op, a, b, c, v, m, wh⟩ := X
    dsimp only at h
    have := right_at (op - 1).toNat (by omega) a b c v m wh n lib
    rw [show (((op - 1).toNat : Nat) : Int) + 1 = op from by omega] at this
    exact this
  · rw [right_bad X n lib h, may_badop X n lib h]
/-- May it be at all? -/
def okV (X : Ins) (n : Int) : Bool := rightV X n true || rightV X n false
theorem may_lib (X : Ins) (n : Int) (h : isLib X = true) : mayV X n false = false := by
  unfold isLib at h
  have : opMay X false = false := by
    unfold opMay
    simp at h ⊢
    omega
  unfold mayV; rw [this]; simp
theorem may_cli (X : Ins) (n : Int) (h : isLib X = false) : mayV X n true = true → mayV X n false = true := by
  unfold isLib at h
  unfold mayV opMay
  simp at h ⊢
  intro h1 h2 h3 h4 h5
  exact ⟨⟨⟨⟨h1, h2⟩, by omega⟩, h4⟩, h5⟩
theorem okV_eq (X : Ins) (n : Int) : okV X n = mayV X n (isLib X) := by
  unfold okV
  rw [right_may, right_may]
  cases h : isLib X with
  | true => rw [may_lib X n h, Bool.or_false]
  | false =>
    cases h1 : mayV X n true with
    | true => rw [may_cli X n h h1]; rfl
    | false => rw [Bool.false_or]
/-- The first that may not be. -/
def badGo (n : Int) : List Ins → Nat → Option Nat
  | [], _ => none
  | X :: l, i => if okV X n then badGo n l (i + 1) else some i
def minO : Option Nat → Option Nat → Option Nat
  | none, r => r
  | some x, none => some x
  | some x, some y => some (min x y)
theorem badIx_ge (n : Int) (lib : Bool) : ∀ (l : List Ins) (i x : Nat), badIx n lib l i = some x → i ≤ x
  | [], _, _, h => by cases h
  | X :: l, i, x, h => by
    unfold badIx at h
    split at h
    · have := badIx_ge n lib l (i + 1) x h; omega
    · injection h with h; omega
theorem may_ret (n : Int) : mayV retX n false = true ∧ mayV retX n true = true := ⟨rfl, rfl⟩
theorem badGo_min (n : Int) : ∀ (l : List Ins) (i : Nat), badGo n l i = minO (badIx n false (l.map cliV) i) (badIx n true (l.map libV) i)
  | [], i => rfl
  | X :: l, i => by
    have ih := badGo_min n l (i + 1)
    rw [List.map_cons, List.map_cons]
    show (if okV X n then _ else _) = minO (if mayV (cliV X) n false then _ else _) (if mayV (libV X) n true then _ else _)
    rw [okV_eq]
    cases hl : isLib X with
    | true =>
      have e1 : cliV X = retX := by unfold cliV; rw [hl]; rfl
      have e2 : libV X = X := by unfold libV; rw [hl]; rfl
      rw [e1, e2, (may_ret n).1, if_pos rfl]
      cases hm : mayV X n true with
      | true => rw [if_pos rfl, if_pos rfl]; exact ih
      | false =>
        rw [if_neg (by simp), if_neg (by simp)]
        cases h1 : badIx n false (l.map cliV) (i + 1) with
        | none => rfl
        | some x =>
          have := badIx_ge _ _ _ _ _ h1
          show some i = some (min x i)
          rw [Nat.min_eq_right (by omega)]
    | false =>
      have e1 : cliV X = X := by unfold cliV; rw [hl]; rfl
      have e2 : libV X = retX := by unfold libV; rw [hl]; rfl
      rw [e1, e2, (may_ret n).2, if_pos rfl]
      cases hm : mayV X n false with
      | true => rw [if_pos rfl, if_pos rfl]; exact ih
      | false =>
        rw [if_neg (by simp), if_neg (by simp)]
        cases h1 : badIx n true (l.map libV) (i + 1) with
        | none => rfl
        | some x =>
          have := badIx_ge _ _ _ _ _ h1
          show some i = some (min i x)
          rw [Nat.min_eq_left (by omega)]
theorem badV_go (l : List Ins) : badV l = match badGo l.length l 0 with | none => -1 | some i => (i : Int) := by
  rw [badGo_min]
  unfold badV
  rw [badTo_2, badTo_1]
  have e0 : badTo l 0 = -1 := rfl
  rw [e0]
  unfold badR1 badR2
  cases h1 : badIx l.length false (l.map cliV) 0 with
  | none =>
    cases h2 : badIx l.length true (l.map libV) 0 with
    | none => rfl
    | some y => rfl
  | some x =>
    cases h2 : badIx l.length true (l.map libV) 0 with
    | none => rfl
    | some y =>
      have e : comb (-1) (some x) = (x : Int) := by show (if (-1 : Int) < 0 ∨ (x : Int) < -1 then (x : Int) else -1) = _; exact if_pos (Or.inl (by omega))
      rw [e]
      show (if (x : Int) < 0 ∨ (y : Int) < (x : Int) then (y : Int) else (x : Int)) = ((min x y : Nat) : Int)
      by_cases h : (y : Int) < x
      · rw [if_pos (Or.inr h), Nat.min_eq_right (by omega)]
      · rw [if_neg (by omega), Nat.min_eq_left (by omega)]
theorem badGo_at (n : Int) : ∀ (l : List Ins) (i : Nat), (∀ (k : Nat) (X : Ins), l[k]? = some X → okV X n = true) → badGo n l i = none
  | [], _, _ => rfl
  | X :: l, i, h => by
    unfold badGo
    rw [h 0 X rfl, if_pos rfl]
    exact badGo_at n l (i + 1) (fun k Y hk => h (k + 1) Y (by simpa using hk))
theorem badGo_hit (n : Int) : ∀ (l : List Ins) (i k : Nat) (X : Ins), (∀ (j : Nat) (Y : Ins), j < k → l[j]? = some Y → okV Y n = true) → l[k]? = some X → okV X n = false → badGo n l i = some (i + k)
  | [], _, k, X, _, h, _ => by simp at h
  | Y :: l, i, 0, X, _, h, hx => by
    have : Y = X := by simpa using h
    subst this
    unfold badGo; rw [hx, if_neg (by simp)]; rfl
  | Y :: l, i, k + 1, X, hb, h, hx => by
    unfold badGo
    rw [hb 0 Y (by omega) rfl, if_pos rfl, badGo_hit n l (i + 1) k X (fun j Z hj hz => hb (j + 1) Z (by omega) (by simpa using hz)) (by simpa using h) hx]
    congr 1; omega
end Go.Proofs.YtnoejikcdigceaaDoor
