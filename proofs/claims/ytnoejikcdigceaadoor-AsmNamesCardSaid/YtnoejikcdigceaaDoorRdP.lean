/- The reader while a label or an instruction is laid into it. -/
import Derived.Test.YtnoejikcdigceaaDoorLine1
set_option linter.unusedVariables false
set_option linter.unusedSimpArgs false
namespace Go.Proofs.YtnoejikcdigceaaDoor
open Go.RowKit

/-- The reader at block p, its map with the labels lm. -/
def RdP (w : World) (B p bx : Nat) (code : List Ins) (lm labels : List (ByteArray × Int)) (lines : List Int) (wants : List (Int × Int × ByteArray)) : Prop :=
  ∃ vl vb vn vw bm, w.heap[p]? = some (.cells #[vl, vb, vn, .map (some bm), vw] 60 (0, 0)) ∧ B ≤ p ∧
    w.ownsRow B 37 7 vl code.length (flatIns code) ∧ vl.ownBlock ≠ some bx ∧
    w.ownsRow B 33 2 vb labels.length (flatLab labels) ∧
    w.ownsRow B 3 1 vn lines.length (flatInt lines) ∧
    w.ownsRow B 64 3 vw wants.length (flatWant wants) ∧
    B ≤ bm ∧ w.heap[bm]? = some (.map (mapEnts lm) lm.length)
theorem RdAt.parts {w : World} {B p bx : Nat} {st : RdSt} (h : RdAt w B p bx st) : RdP w B p bx st.code st.labels st.labels st.lines st.wants := h
theorem RdP.whole {w : World} {B p bx : Nat} {st : RdSt} (h : RdP w B p bx st.code st.labels st.labels st.lines st.wants) : RdAt w B p bx st := h
theorem putMap_other {w : World} {bm k : Nat} {es : Array MapEntry} {n : Nat} (h : k ≠ bm) : (putMap w bm es n).heap[k]? = w.heap[k]? := by
  unfold putMap
  simp only [Array.getElem?_setIfInBounds]
  rw [if_neg (Ne.symm h)]
theorem putMap_grown (w : World) (bm : Nat) (es : Array MapEntry) (n : Nat) : w.grownBy (putMap w bm es n) (some bm) :=
  ⟨rfl, rfl, rfl, by simp [putMap], fun k _ hr => putMap_other (fun e => hr (by rw [e]))⟩
theorem row_ne_map {w : World} {B : Nat} {e : TypeId} {size : Nat} {v : Value} {n : Nat} {xs : List Value} (h : w.ownsRow B e size v n xs) {k : Nat} {c : Array MapEntry} {t : Nat} (hk : w.heap[k]? = some (.map c t)) : v.ownBlock = none ∨ v.ownBlock ≠ some k := Or.inr (row_map h hk)
theorem RdP.put {w : World} {B p bx bm : Nat} {code : List Ins} {lm l : List (ByteArray × Int)} {lines : List Int} {wants : List (Int × Int × ByteArray)} {vl vb vn vw : Value} (x : ByteArray × Int)
    (hp : w.heap[p]? = some (.cells #[vl, vb, vn, .map (some bm), vw] 60 (0, 0))) (hBp : B ≤ p) (hl : w.ownsRow B 37 7 vl code.length (flatIns code)) (hne : vl.ownBlock ≠ some bx)
    (hb : w.ownsRow B 33 2 vb l.length (flatLab l)) (hn : w.ownsRow B 3 1 vn lines.length (flatInt lines)) (hw : w.ownsRow B 64 3 vw wants.length (flatWant wants))
    (hbm : B ≤ bm) (hm : w.heap[bm]? = some (.map (mapEnts lm) lm.length)) :
    RdP (putMap w bm (mapEnts (lm ++ [x])) (lm.length + 1)) B p bx code (lm ++ [x]) l lines wants ∧ Below B w (putMap w bm (mapEnts (lm ++ [x])) (lm.length + 1)) ∧ Keep w (putMap w bm (mapEnts (lm ++ [x])) (lm.length + 1)) := by
  have hg := putMap_grown w bm (mapEnts (lm ++ [x])) (lm.length + 1)
  have hlt : bm < w.heap.size := (Array.getElem?_eq_some_iff.1 hm).1
  have hpm : p ≠ bm := by
    intro e; subst e; rw [hm] at hp; injection hp with hp; cases hp
  refine ⟨⟨vl, vb, vn, vw, bm, ?_, hBp, hl.kept hg (row_ne_map hl hm), hne, hb.kept hg (row_ne_map hb hm), hn.kept hg (row_ne_map hn hm), hw.kept hg (row_ne_map hw hm), hbm, ?_⟩, ?_, ?_⟩
  · rw [putMap_other hpm]; exact hp
  · unfold putMap; simp [Array.getElem?_setIfInBounds, hlt]
  · exact ⟨rfl, rfl, rfl, by simp [putMap], fun k hk => putMap_other (by omega)⟩
  · intro k c t f _ hk
    rw [putMap_other (fun e => by subst e; rw [hm] at hk; injection hk with hk; cases hk)]; exact hk
theorem rd_lab {w w1 : World} {B p bx bm : Nat} {code : List Ins} {lm l : List (ByteArray × Int)} {lines : List Int} {wants : List (Int × Int × ByteArray)} {vl vb vn vw v' : Value} {y : ByteArray × Int}
    (hp : w.heap[p]? = some (.cells #[vl, vb, vn, .map (some bm), vw] 60 (0, 0))) (hBp : B ≤ p) (hl : w.ownsRow B 37 7 vl code.length (flatIns code)) (hne : vl.ownBlock ≠ some bx)
    (hb : w.ownsRow B 33 2 vb l.length (flatLab l)) (hn : w.ownsRow B 3 1 vn lines.length (flatInt lines)) (hw : w.ownsRow B 64 3 vw wants.length (flatWant wants))
    (hbm : B ≤ bm) (hm : w.heap[bm]? = some (.map (mapEnts lm) lm.length))
    (hown : w1.ownsRow B 33 2 v' (l.length + 1) (flatLab l ++ [.string y.1, .int .i64 y.2])) (hg : w.grownBy w1 vb.ownBlock) :
    RdP (w1.setCell ⟨p, 1, none⟩ v') B p bx code lm (l ++ [y]) lines wants ∧ Below B w (w1.setCell ⟨p, 1, none⟩ v') ∧ Keep w (w1.setCell ⟨p, 1, none⟩ v') := by
  have hplt : p < w.heap.size := (Array.getElem?_eq_some_iff.1 hp).1
  have hwp : vb.ownBlock ≠ some p := row_type hb hp (by decide)
  have hp1 : w1.heap[p]? = some (.cells #[vl, vb, vn, .map (some bm), vw] 60 (0, 0)) := by rw [hg.block p hplt (Ne.symm hwp)]; exact hp
  have hpm : bm ≠ p := by
    intro e; subst e; rw [hm] at hp; injection hp with hp; cases hp
  refine ⟨⟨vl, v', vn, vw, bm, setCell_row hp1, hBp, row_keep hl hg (rows_ne hl hb (by decide)) hp1 (by decide), hne, ?_, row_keep hn hg (rows_ne hn hb (by decide)) hp1 (by decide), row_keep hw hg (rows_ne hw hb (by decide)) hp1 (by decide), hbm, ?_⟩, ?_, ?_⟩
  · have := own_set (j := 1) (u := v') hown hp1 (by decide)
    simpa [flatLab] using this
  · rw [setCell_block (by simpa using hpm), hg.block bm (Array.getElem?_eq_some_iff.1 hm).1 (Ne.symm (row_map hb hm))]; exact hm
  · exact below_field hg (fun k hk => (hb.lt k hk).1) hBp hplt
  · exact keep_field hp hg (row_kinds hb (by decide))
theorem rd_line {w w1 : World} {B p bx bm : Nat} {code : List Ins} {lm l : List (ByteArray × Int)} {lines : List Int} {wants : List (Int × Int × ByteArray)} {vl vb vn vw v' : Value} {y : Int}
    (hp : w.heap[p]? = some (.cells #[vl, vb, vn, .map (some bm), vw] 60 (0, 0))) (hBp : B ≤ p) (hl : w.ownsRow B 37 7 vl code.length (flatIns code)) (hne : vl.ownBlock ≠ some bx)
    (hb : w.ownsRow B 33 2 vb l.length (flatLab l)) (hn : w.ownsRow B 3 1 vn lines.length (flatInt lines)) (hw : w.ownsRow B 64 3 vw wants.length (flatWant wants))
    (hbm : B ≤ bm) (hm : w.heap[bm]? = some (.map (mapEnts lm) lm.length))
    (hown : w1.ownsRow B 3 1 v' (lines.length + 1) (flatInt lines ++ [.int .i64 y])) (hg : w.grownBy w1 vn.ownBlock) :
    RdP (w1.setCell ⟨p, 2, none⟩ v') B p bx code lm l (lines ++ [y]) wants ∧ Below B w (w1.setCell ⟨p, 2, none⟩ v') ∧ Keep w (w1.setCell ⟨p, 2, none⟩ v') := by
  have hplt : p < w.heap.size := (Array.getElem?_eq_some_iff.1 hp).1
  have hwp : vn.ownBlock ≠ some p := row_type hn hp (by decide)
  have hp1 : w1.heap[p]? = some (.cells #[vl, vb, vn, .map (some bm), vw] 60 (0, 0)) := by rw [hg.block p hplt (Ne.symm hwp)]; exact hp
  have hpm : bm ≠ p := by
    intro e; subst e; rw [hm] at hp; injection hp with hp; cases hp
  refine ⟨⟨vl, vb, v', vw, bm, setCell_row hp1, hBp, row_keep hl hg (rows_ne hl hn (by decide)) hp1 (by decide), hne, row_keep hb hg (rows_ne hb hn (by decide)) hp1 (by decide), ?_, row_keep hw hg (rows_ne hw hn (by decide)) hp1 (by decide), hbm, ?_⟩, ?_, ?_⟩
  · have := own_set (j := 2) (u := v') hown hp1 (by decide)
    simpa [flatInt] using this
  · rw [setCell_block (by simpa using hpm), hg.block bm (Array.getElem?_eq_some_iff.1 hm).1 (Ne.symm (row_map hn hm))]; exact hm
  · exact below_field hg (fun k hk => (hn.lt k hk).1) hBp hplt
  · exact keep_field hp hg (row_kinds hn (by decide))
theorem rd_code {w w1 : World} {B p bx bm : Nat} {code : List Ins} {lm l : List (ByteArray × Int)} {lines : List Int} {wants : List (Int × Int × ByteArray)} {vl vb vn vw v' : Value} {y : Ins}
    (hp : w.heap[p]? = some (.cells #[vl, vb, vn, .map (some bm), vw] 60 (0, 0))) (hBp : B ≤ p) (hl : w.ownsRow B 37 7 vl code.length (flatIns code)) (hne : vl.ownBlock ≠ some bx)
    (hb : w.ownsRow B 33 2 vb l.length (flatLab l)) (hn : w.ownsRow B 3 1 vn lines.length (flatInt lines)) (hw : w.ownsRow B 64 3 vw wants.length (flatWant wants))
    (hbm : B ≤ bm) (hm : w.heap[bm]? = some (.map (mapEnts lm) lm.length))
    (hown : w1.ownsRow B 37 7 v' (code.length + 1) (flatIns code ++ (insCells y).toList)) (hg : w.grownBy w1 vl.ownBlock) (hne' : v'.ownBlock ≠ some bx) :
    RdP (w1.setCell ⟨p, 0, none⟩ v') B p bx (code ++ [y]) lm l lines wants ∧ Below B w (w1.setCell ⟨p, 0, none⟩ v') ∧ Keep w (w1.setCell ⟨p, 0, none⟩ v') := by
  have hplt : p < w.heap.size := (Array.getElem?_eq_some_iff.1 hp).1
  have hwp : vl.ownBlock ≠ some p := row_type hl hp (by decide)
  have hp1 : w1.heap[p]? = some (.cells #[vl, vb, vn, .map (some bm), vw] 60 (0, 0)) := by rw [hg.block p hplt (Ne.symm hwp)]; exact hp
  have hpm : bm ≠ p := by
    intro e; subst e; rw [hm] at hp; injection hp with hp; cases hp
  refine ⟨⟨v', vb, vn, vw, bm, setCell_row hp1, hBp, ?_, hne', row_keep hb hg (rows_ne hb hl (by decide)) hp1 (by decide), row_keep hn hg (rows_ne hn hl (by decide)) hp1 (by decide), row_keep hw hg (rows_ne hw hl (by decide)) hp1 (by decide), hbm, ?_⟩, ?_, ?_⟩
  · have := own_set (j := 0) (u := v') hown hp1 (by decide)
    simpa [flatIns] using this
  · rw [setCell_block (by simpa using hpm), hg.block bm (Array.getElem?_eq_some_iff.1 hm).1 (Ne.symm (row_map hl hm))]; exact hm
  · exact below_field hg (fun k hk => (hl.lt k hk).1) hBp hplt
  · exact keep_field hp hg (row_kinds hl (by decide))
end Go.Proofs.YtnoejikcdigceaaDoor
