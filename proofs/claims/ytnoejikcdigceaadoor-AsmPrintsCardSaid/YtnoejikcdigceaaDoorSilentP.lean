/- The plain law of AsmSilent, first half: lines' numbers don't matter; a silent line changes nothing. -/
import Derived.Test.YtnoejikcdigceaaDoorGLine
set_option linter.unusedVariables false
set_option linter.unusedSimpArgs false
namespace Go.Proofs.YtnoejikcdigceaaDoor
open Go.RowKit
/-- Two readers alike but for the numbers of lines. -/
structure RdSim (a b : RdSt) : Prop where
  code : a.code = b.code
  labels : a.labels = b.labels
  wants : a.wants.map (fun x => (x.1, x.2.2)) = b.wants.map (fun x => (x.1, x.2.2))
inductive Sim2 : Except Bool (RdSt × Ins) → Except Bool (RdSt × Ins) → Prop
  | ok {a b X} (h : RdSim a b) : Sim2 (.ok (a, X)) (.ok (b, X))
  | err {t} : Sim2 (.error t) (.error t)
inductive Sim1 : Except Bool RdSt → Except Bool RdSt → Prop
  | ok {a b} (h : RdSim a b) : Sim1 (.ok a) (.ok b)
  | err {t} : Sim1 (.error t) (.error t)
theorem withSt_sim {a b : RdSt} (h : RdSim a b) (r : Except Bool Ins) : Sim2 (withSt a r) (withSt b r) := by
  cases r with
  | ok X => exact .ok h
  | error t => exact .err
theorem opndV_sim {a b : RdSt} (h : RdSim a b) (X : Ins) (kd : Int) (y : ByteArray) (i j : Int) : Sim2 (opndV a X kd y i) (opndV b X kd y j) := by
  unfold opndV
  split
  · exact .ok ⟨h.code, h.labels, by simp [h.wants, h.code]⟩
  · split
    · exact .err
    · exact withSt_sim h _
theorem opndsGo_sim (K : Int × Int × Int) (ws : List ByteArray) (i j : Int) : ∀ (f n : Nat) (a b : RdSt) (X : Ins), RdSim a b → Sim2 (opndsGo i K ws f n a X) (opndsGo j K ws f n b X)
  | 0, n, a, b, X, h => .ok h
  | f + 1, n, a, b, X, h => by
    unfold opndsGo
    have h1 := opndV_sim h X (kindAt K n) (wordAt ws n) i j
    generalize opndV a X (kindAt K n) (wordAt ws n) i = r at h1
    generalize opndV b X (kindAt K n) (wordAt ws n) j = r' at h1
    cases h1 with
    | ok h2 => exact opndsGo_sim K ws i j f (n + 1) _ _ _ h2
    | err => exact .err
theorem insPush_sim {a b : RdSt} (h : RdSim a b) (r : Except Bool Ins) : Sim1 (insPush a r) (insPush b r) := by
  cases r with
  | ok X => exact .ok ⟨by simp [h.code], h.labels, h.wants⟩
  | error t => exact .err
theorem insEnd_sim (n : Nat) (ws : List ByteArray) {r r' : Except Bool (RdSt × Ins)} (h : Sim2 r r') : Sim1 (insEnd n ws r) (insEnd n ws r') := by
  cases h with
  | ok h => exact insPush_sim h _
  | err => exact .err
theorem lineV_sim {a b : RdSt} (h : RdSim a b) (s : ByteArray) (i j : Int) : Sim1 (lineV a s i) (lineV b s j) := by
  unfold lineV
  rcases wordsV s with _ | ⟨w0, rest⟩
  · exact .ok h
  · unfold lineWs
    dsimp only
    split
    · unfold labV
      rw [h.labels]
      cases labFind b.labels (w0.extract 0 (w0.size - 1)) 0 with
      | some _ => exact .err
      | none =>
        dsimp only
        split
        · exact .ok ⟨h.code, by simp [h.labels, h.code], h.wants⟩
        · exact .err
    · unfold insV
      split
      · exact .err
      · split
        · exact .err
        · exact insEnd_sim _ _ (opndsGo_sim _ _ _ _ _ _ _ _ _ h)
/-- Both errors, or both alike. -/
inductive SimL : Except (Bool × Int) RdSt → Except (Bool × Int) RdSt → Prop
  | ok {a b} (h : RdSim a b) : SimL (.ok a) (.ok b)
  | err {t u} : SimL (.error t) (.error u)
theorem linesGo_sim : ∀ (l : List ByteArray) (i j : Int) (a b : RdSt), RdSim a b → SimL (linesGo l i a) (linesGo l j b)
  | [], i, j, a, b, h => .ok h
  | s :: l, i, j, a, b, h => by
    unfold linesGo
    have h1 := lineV_sim h s i j
    generalize lineV a s i = r at h1
    generalize lineV b s j = r' at h1
    cases h1 with
    | ok h2 => exact linesGo_sim l (i + 1) (j + 1) _ _ h2
    | err => exact .err
theorem RdSim.refl (a : RdSt) : RdSim a a := ⟨rfl, rfl, rfl⟩
/-- Silent lines are passed. -/
theorem linesGo_silent (Y : List ByteArray) : ∀ (S : List ByteArray) (i j : Int) (a b : RdSt), (∀ s ∈ S, wordsV s = []) → RdSim a b → SimL (linesGo Y i a) (linesGo (S ++ Y) j b)
  | [], i, j, a, b, hS, h => linesGo_sim Y i j a b h
  | s :: S, i, j, a, b, hS, h => by
    have e : lineV b s j = .ok b := by unfold lineV; rw [hS s (by simp)]; rfl
    show SimL (linesGo Y i a) (linesGo (s :: (S ++ Y)) j b)
    rw [show linesGo (s :: (S ++ Y)) j b = linesGo (S ++ Y) (j + 1) b by conv => lhs; unfold linesGo; rw [e]]
    exact linesGo_silent Y S i (j + 1) a b (fun x hx => hS x (by simp [hx])) h
theorem linesGo_mid (S Y : List ByteArray) (hS : ∀ s ∈ S, wordsV s = []) : ∀ (X : List ByteArray) (i j : Int) (a b : RdSt), RdSim a b → SimL (linesGo (X ++ Y) i a) (linesGo (X ++ (S ++ Y)) j b)
  | [], i, j, a, b, h => linesGo_silent Y S i j a b hS h
  | s :: X, i, j, a, b, h => by
    show SimL (linesGo (s :: (X ++ Y)) i a) (linesGo (s :: (X ++ (S ++ Y))) j b)
    unfold linesGo
    have h1 := lineV_sim h s i j
    generalize lineV a s i = r at h1
    generalize lineV b s j = r' at h1
    cases h1 with
    | ok h2 => exact linesGo_mid S Y hS X (i + 1) (j + 1) _ _ h2
    | err => exact .err
theorem wantsGo_sim (labels : List (ByteArray × Int)) : ∀ (x y : List (Int × Int × ByteArray)) (code : List Ins), x.map (fun x => (x.1, x.2.2)) = y.map (fun x => (x.1, x.2.2)) → wantsGo labels x code = wantsGo labels y code
  | [], [], code, h => rfl
  | [], y :: ys, code, h => by cases h
  | x :: xs, [], code, h => by cases h
  | x :: xs, y :: ys, code, h => by
    have h1 : (x.1, x.2.2) = (y.1, y.2.2) ∧ xs.map (fun x => (x.1, x.2.2)) = ys.map (fun x => (x.1, x.2.2)) := List.cons.inj h
    have ha : x.1 = y.1 := (Prod.mk.inj h1.1).1
    have hb : x.2.2 = y.2.2 := (Prod.mk.inj h1.1).2
    unfold wantsGo
    rw [ha, hb]
    cases labFind labels y.2.2 0 with
    | none => rfl
    | some j => exact wantsGo_sim labels xs ys _ h1.2
theorem parseEnd_sim {a b : RdSt} (h : RdSim a b) : parseEnd a = parseEnd b := by
  unfold parseEnd
  rw [h.code, h.labels, wantsGo_sim b.labels a.wants b.wants b.code h.wants]
inductive SimP : Except (Bool × Int) (List Ins × List (ByteArray × Int)) → Except (Bool × Int) (List Ins × List (ByteArray × Int)) → Prop
  | ok {r} : SimP (.ok r) (.ok r)
  | err {t u} : SimP (.error t) (.error u)
/-- Silent lines between lines change nothing. -/
theorem parseLs_silent (X S Y : List ByteArray) (hS : ∀ s ∈ S, wordsV s = []) : SimP (parseLs (X ++ Y)) (parseLs (X ++ (S ++ Y))) := by
  unfold parseLs
  have h := linesGo_mid S Y hS X 0 0 stNil stNil (.refl _)
  generalize linesGo (X ++ Y) 0 stNil = r at h
  generalize linesGo (X ++ (S ++ Y)) 0 stNil = r' at h
  cases h with
  | ok h =>
    dsimp only
    rw [parseEnd_sim h]
    rename_i a b
    cases parseEnd b with
    | none => exact .err
    | some r => exact .ok
  | err => exact .err
end Go.Proofs.YtnoejikcdigceaaDoor
