/- What asm.Parse does, as a function; what holds of a reader behind each line. -/
import Derived.Test.YtnoejikcdigceaaDoorLine4
set_option linter.unusedVariables false
set_option linter.unusedSimpArgs false
namespace Go.Proofs.YtnoejikcdigceaaDoor
open Go.RowKit
/-- What holds of a reader between lines. -/
structure RdOk (st : RdSt) : Prop where
  same : st.labels.length = st.lines.length
  want : ∀ x ∈ st.wants, 0 ≤ x.1 ∧ x.1 < st.code.length
  lab : ∀ b ∈ st.labels, 0 ≤ b.2 ∧ b.2 ≤ st.code.length
/-- How much a line adds. -/
structure RdGrow (st st' : RdSt) : Prop where
  code : st'.code.length ≤ st.code.length + 1
  labels : st'.labels.length ≤ st.labels.length + 1
  lines : st'.lines.length ≤ st.lines.length + 1
  wants : st'.wants.length ≤ st.wants.length + 3
theorem opndV_more {st st2 : RdSt} {X X2 : Ins} {kd line : Int} {y : ByteArray} (h : opndV st X kd y line = .ok (st2, X2)) :
    st2.code = st.code ∧ st2.labels = st.labels ∧ st2.lines = st.lines ∧ (st2.wants = st.wants ∨ st2.wants = st.wants ++ [((st.code.length : Int), line, y)]) := by
  unfold opndV at h
  split at h
  · injection h with h; injection h with h _; subst h; exact ⟨rfl, rfl, rfl, Or.inr rfl⟩
  · split at h
    · cases h
    · unfold withSt at h
      split at h
      · injection h with h; injection h with h _; subst h; exact ⟨rfl, rfl, rfl, Or.inl rfl⟩
      · cases h
theorem opndsGo_more (line : Int) (K : Int × Int × Int) (ws : List ByteArray) : ∀ (f i : Nat) (st : RdSt) (X : Ins) (st2 : RdSt) (X2 : Ins), opndsGo line K ws f i st X = .ok (st2, X2) →
    st2.code = st.code ∧ st2.labels = st.labels ∧ st2.lines = st.lines ∧ st2.wants.length ≤ st.wants.length + f ∧ (∀ x ∈ st2.wants, x ∈ st.wants ∨ x.1 = st.code.length)
  | 0, i, st, X, st2, X2, h => by
    unfold opndsGo at h
    injection h with h; injection h with h _; subst h
    exact ⟨rfl, rfl, rfl, by omega, fun x hx => Or.inl hx⟩
  | f + 1, i, st, X, st2, X2, h => by
    unfold opndsGo at h
    split at h
    · rename_i st' X' ho
      obtain ⟨a1, a2, a3, a4⟩ := opndV_more ho
      obtain ⟨b1, b2, b3, b4, b5⟩ := opndsGo_more line K ws f (i + 1) st' X' st2 X2 h
      refine ⟨b1.trans a1, b2.trans a2, b3.trans a3, ?_, fun x hx => ?_⟩
      · rcases a4 with a4 | a4
        · rw [a4] at b4; omega
        · rw [a4] at b4; simp at b4; omega
      · rcases b5 x hx with hx | hx
        · rcases a4 with a4 | a4
          · rw [a4] at hx; exact Or.inl hx
          · rw [a4] at hx
            rcases List.mem_append.1 hx with hx | hx
            · exact Or.inl hx
            · have := List.mem_singleton.1 hx; subst this; exact Or.inr rfl
        · exact Or.inr (by rw [hx, a1])
    · cases h
theorem insV_ok {st st' : RdSt} {w0 : ByteArray} {rest : List ByteArray} {line : Int} (hk : RdOk st) (h : insV st w0 rest line = .ok st') : RdOk st' ∧ RdGrow st st' := by
  unfold insV at h
  split at h
  · cases h
  · split at h
    · cases h
    · rcases hg : opndsGo line (opndsV (opV w0)) rest (cntV (opndsV (opV w0))) 0 st (insX (opV w0)) with t | ⟨st2, X2⟩
      · rw [hg] at h; cases h
      · rw [hg] at h
        obtain ⟨b1, b2, b3, b4, b5⟩ := opndsGo_more _ _ _ _ _ _ _ _ _ hg
        have h3 := cntV_le (opndsV (opV w0))
        have key : ∀ X, RdOk { st2 with code := st2.code ++ [X] } ∧ RdGrow st { st2 with code := st2.code ++ [X] } := by
          intro X
          refine ⟨⟨by rw [b2, b3]; exact hk.same, fun x hx => ?_, fun b hb => ?_⟩, ⟨by simp [b1], by simp [b2], by simp [b3], by simp; omega⟩⟩
          · simp only [List.length_append, List.length_singleton, b1]
            rcases b5 x hx with hx | hx
            · have := hk.want x hx; exact ⟨this.1, by push_cast; omega⟩
            · rw [hx]; exact ⟨by omega, by push_cast; omega⟩
          · simp only [List.length_append, List.length_singleton, b1]
            have hb : b ∈ st.labels := by rw [← b2]; exact hb
            have := hk.lab b hb; exact ⟨this.1, by push_cast; omega⟩
        unfold insEnd insPush at h
        dsimp only at h
        split at h
        · rename_i X _
          injection h with h; subst h; exact key X
        · cases h
theorem lineV_ok {st st' : RdSt} {s : ByteArray} {line : Int} (hk : RdOk st) (h : lineV st s line = .ok st') : RdOk st' ∧ RdGrow st st' := by
  unfold lineV at h
  rcases hw : wordsV s with _ | ⟨w0, rest⟩
  · rw [hw] at h
    unfold lineWs at h; injection h with h; subst h
    exact ⟨hk, ⟨by omega, by omega, by omega, by omega⟩⟩
  · rw [hw] at h
    replace h : (if rest = [] ∧ byteAt w0 (w0.size - 1) = 58 then labV st (w0.extract 0 (w0.size - 1)) line else insV st w0 rest line) = .ok st' := h
    split at h
    · unfold labV at h
      split at h
      · cases h
      · split at h
        · injection h with h; subst h
          refine ⟨⟨by simp [hk.same], hk.want, fun b hb => ?_⟩, ⟨by simp, by simp, by simp, by simp⟩⟩
          rcases List.mem_append.1 hb with hb | hb
          · exact hk.lab b hb
          · have := List.mem_singleton.1 hb; subst this; exact ⟨by dsimp only; omega, by dsimp only; omega⟩
        · cases h
    · exact insV_ok hk h

/-- Line by line; an error with its line. -/
def linesGo : List ByteArray → Int → RdSt → Except (Bool × Int) RdSt
  | [], _, st => .ok st
  | l :: ls, i, st => match lineV st l i with
    | .ok st' => linesGo ls (i + 1) st'
    | .error t => .error (t, i)
/-- The code with a place laid into an instruction. -/
def setV (code : List Ins) (at_ : Nat) (v : Int) : List Ins := code.modify at_ fun X => { X with v := v }
def labAt (l : List (ByteArray × Int)) (j : Nat) : Int := ((l[j]?).map (·.2)).getD 0
/-- The places that were wanted are laid in. -/
def wantsGo (labels : List (ByteArray × Int)) : List (Int × Int × ByteArray) → List Ins → Option (List Ins)
  | [], code => some code
  | x :: xs, code => match labFind labels x.2.2 0 with
    | some j => wantsGo labels xs (setV code x.1.toNat (labAt labels j))
    | none => none
def stNil : RdSt := ⟨[], [], [], []⟩
def parseEnd (st : RdSt) : Option (List Ins × List (ByteArray × Int)) :=
  match wantsGo st.labels st.wants st.code with
  | none => none
  | some code => if 2048 < code.length then none else if st.labels.any (fun b => b.2 == (code.length : Int)) then none else some (code, st.labels)
/-- What asm.Parse reads out of lines; an error, of a text at a line where the first is true. -/
def parseLs (ls : List ByteArray) : Except (Bool × Int) (List Ins × List (ByteArray × Int)) :=
  match linesGo ls 0 stNil with
  | .error t => .error t
  | .ok st => match parseEnd st with
    | some r => .ok r
    | none => .error (false, 0)
def nlB : ByteArray := ⟨#[10]⟩
def cutLines (s : ByteArray) : List ByteArray := Lib.splitB nlB 0 (Lib.countB s nlB) s
def parseV (s : ByteArray) : Except (Bool × Int) (List Ins × List (ByteArray × Int)) := parseLs (cutLines s)
theorem splitB_size (sep : ByteArray) : ∀ (k : Nat) (s : ByteArray), ∀ x ∈ Lib.splitB sep 0 k s, x.size ≤ s.size
  | 0, s, x, hx => by have := List.mem_singleton.1 hx; subst this; exact Nat.le_refl _
  | k + 1, s, x, hx => by
    unfold Lib.splitB at hx
    split at hx
    · have := List.mem_singleton.1 hx; subst this; exact Nat.le_refl _
    · rcases List.mem_cons.1 hx with rfl | hx
      · simp; omega
      · have := splitB_size sep k _ x hx
        simp at this; omega
theorem cutLines_len (s : ByteArray) : (cutLines s).length = Lib.countB s nlB + 1 := Lib.splitB_all nlB (by decide) 0 _ s rfl
theorem cutLines_le (s : ByteArray) : (cutLines s).length ≤ s.size + 1 := by
  rw [cutLines_len]; have := Lib.countB_le nlB (by decide) s.size s (Nat.le_refl _); omega
/-- What asm.Parse hands back. -/
def Parsed (r : Except (Bool × Int) (List Ins × List (ByteArray × Int))) (w : World) (e : Ending) (w' : World) : Prop :=
  match r with
  | .ok (code, labels) => ∃ vl vb, e = .returned (.tuple #[vl, vb, .nilIface]) ∧ w'.ownsRow w.heap.size 37 7 vl code.length (flatIns code) ∧ w'.ownsRow w.heap.size 33 2 vb labels.length (flatLab labels) ∧ Below w.heap.size w w'
  | .error (t, i) => ∃ line v, e = .returned (.tuple #[.slice none 0 0, .slice none 0 0, v]) ∧ ErrAt w' w.heap.size line t v ∧ (t = true → line = i) ∧ Below w.heap.size w w'
theorem stNil_ok : RdOk stNil := ⟨rfl, (fun x hx => by cases hx), (fun x hx => by cases hx)⟩
end Go.Proofs.YtnoejikcdigceaaDoor
