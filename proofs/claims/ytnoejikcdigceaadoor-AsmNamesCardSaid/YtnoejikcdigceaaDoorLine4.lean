/- asm.reader.line: contract. -/
import Derived.Test.YtnoejikcdigceaaDoorLine2
import Derived.Test.YtnoejikcdigceaaDoorLine3
set_option linter.unusedVariables false
set_option linter.unusedSimpArgs false
namespace Go.Proofs.YtnoejikcdigceaaDoor
open Go.RowKit
def labV (st : RdSt) (nm : ByteArray) (line : Int) : Except Bool RdSt :=
  match labFind st.labels nm 0 with
  | some _ => .error true
  | none => if nameV nm then .ok { st with labels := st.labels ++ [(nm, (st.code.length : Int))], lines := st.lines ++ [line] } else .error true
def lineWs (st : RdSt) (line : Int) : List ByteArray → Except Bool RdSt
  | [] => .ok st
  | w0 :: rest => if rest = [] ∧ byteAt w0 (w0.size - 1) = 58 then labV st (w0.extract 0 (w0.size - 1)) line else insV st w0 rest line
/-- What reading a line does. -/
def lineV (st : RdSt) (s : ByteArray) (line : Int) : Except Bool RdSt := lineWs st line (wordsV s)

theorem line_any (s : ByteArray) (hs : s.size ≤ 65536) (line : Int) (B p : Nat) (st : RdSt) (w : World) (hrd : RdAt w B p p st) (hB : B ≤ w.heap.size)
    (h1 : st.wants.length ≤ 1000000) (h2 : st.code.length ≤ 1048576) (h3 : st.labels.length ≤ 1048576) (h4 : st.lines.length ≤ 1048576) :
    Calls Tryd.prog 21 #[.pointer (some ⟨p, 0, none⟩), .string s, .int .i64 line] w (LineDone (lineV st s line) B p line w) := by
  have hs' : s.size ≤ 65536 := by omega
  obtain ⟨hz, hl⟩ := wordsV_size s
  unfold lineV
  rcases hw : wordsV s with _ | ⟨w0, rest⟩
  · exact line_none s hs' line B p st w hrd hB hw
  · rw [hw] at hz hl
    have z0 := hz w0 (by simp)
    have hrl : rest.length ≤ 65536 := by simp at hl; omega
    by_cases hc : rest = [] ∧ byteAt w0 (w0.size - 1) = 58
    · obtain ⟨rfl, hc2⟩ := hc
      have e : lineWs st line [w0] = labV st (w0.extract 0 (w0.size - 1)) line := if_pos ⟨rfl, hc2⟩
      rw [e]
      unfold labV
      rcases hf : labFind st.labels (w0.extract 0 (w0.size - 1)) 0 with _ | j
      · by_cases hn : nameV (w0.extract 0 (w0.size - 1)) = true
        · simp only [hn, if_true]
          exact line_label s hs' line B p st w hrd hB w0 hw z0.1 (by omega) hc2 hf hn h3 h4
        · have hn' : nameV (w0.extract 0 (w0.size - 1)) = false := by simpa using hn
          simp only [hn', Bool.false_eq_true, if_false]
          exact line_badname s hs' line B p st w hrd hB w0 hw z0.1 (by omega) hc2 hf hn'
      · exact line_again s hs' line B p st w hrd hB w0 hw z0.1 (by omega) hc2 j hf
    · have e : lineWs st line (w0 :: rest) = insV st w0 rest line := if_neg hc
      rw [e]
      have hc' : rest ≠ [] ∨ byteAt w0 (w0.size - 1) ≠ 58 := by
        by_cases h : rest = []
        · exact Or.inr fun h2 => hc ⟨h, h2⟩
        · exact Or.inl h
      by_cases hop : opV w0 = 0
      · have e2 : insV st w0 rest line = .error true := if_pos hop
        rw [e2]
        exact line_noop s hs' line B p st w hrd hB w0 rest hw z0.1 (by omega) hc' hrl hop
      · exact line_ins s hs' line B p st w hrd hB w0 rest hw z0.1 (by omega) hc' hrl (fun y hy => ⟨(hz y (by simp [hy])).1, by have := (hz y (by simp [hy])).2; omega⟩) hop h1 h2
end Go.Proofs.YtnoejikcdigceaaDoor
