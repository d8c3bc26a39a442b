/- asm.reader.operand at kinds that may name a place: contract. -/
import Derived.Test.YtnoejikcdigceaaDoorOpnd1
import Derived.Deep.RegionHeld3
import Derived.Deep.AppendLies
import Derived.Deep.RegionLaw
set_option linter.unusedVariables false
set_option linter.unusedSimpArgs false
namespace Go.Proofs.YtnoejikcdigceaaDoor
open Go.RowKit
theorem info64 : (Tryd.prog.info? 64).map (fun i => (i.zero, i.size, i.bytes)) = some (some (.agg #[.int .i64 0, .int .i64 0, .string ByteArray.empty]), 3, 32) := by kernel_rfl
theorem owns_slice {w : World} {B : Nat} {e : TypeId} {size : Nat} {v : Value} {n : Nat} {xs : List Value} (h : w.ownsRow B e size v n xs) : ∃ a c, v = .slice a n c := by
  rcases h.2 with ⟨rfl, rfl⟩ | ⟨g, cap, cur, rfl, _⟩
  · exact ⟨_, _, rfl⟩
  · exact ⟨_, _, rfl⟩
theorem named_call (s : ByteArray) (hs : s.size ≤ maxLen) (b : Bool) (h : nameV s = b) (w : World) : Calls Tryd.prog 35 #[.string s] w (RetB b w) := by rw [← h]; exact named_any s hs w
theorem rowCell {w : World} {b i : Nat} {c : Array Value} {t : TypeId} (h : w.heap[b]? = some (.cells c t (0, 0))) : w.cell? ⟨b, i, none⟩ = c[i]? := cell_of_row w b i _ _ _ h
theorem rowFree {w : World} {b i : Nat} {c : Array Value} {t : TypeId} (h : w.heap[b]? = some (.cells c t (0, 0))) : w.frozen? ⟨b, i, none⟩ = false := by
  unfold World.frozen?; simp only [h]; simp

theorem rows_ne {w : World} {B B' : Nat} {e e' : TypeId} {size size' : Nat} {v v' : Value} {n n' : Nat} {xs xs' : List Value} (h : w.ownsRow B e size v n xs) (h' : w.ownsRow B' e' size' v' n' xs') (hne : e ≠ e') : v.ownBlock = none ∨ v.ownBlock ≠ v'.ownBlock := by
  rcases h.2 with ⟨rfl, _⟩ | ⟨g, cap, cur, rfl, _, hg, _⟩
  · exact Or.inl rfl
  · refine Or.inr fun heq => ?_
    have := row_type h' hg hne
    exact this heq.symm
theorem row_keep {w w1 : World} {B : Nat} {e : TypeId} {size : Nat} {v : Value} {n : Nat} {xs : List Value} {r : Option Nat} {p j : Nat} {c : Array Value} {f : Nat × Nat} {u : Value}
    (h : w.ownsRow B e size v n xs) (hg : w.grownBy w1 r) (hne : v.ownBlock = none ∨ v.ownBlock ≠ r) (hp : w1.heap[p]? = some (.cells c 60 f)) (he : e ≠ 60) :
    (w1.setCell ⟨p, j, none⟩ u).ownsRow B e size v n xs :=
  ownsRow_setCell_other (h.kept hg hne) (row_type (h.kept hg hne) hp (Ne.symm he)) u
theorem own_set {w1 : World} {B : Nat} {e : TypeId} {size : Nat} {v : Value} {n : Nat} {xs : List Value} {p j : Nat} {c : Array Value} {f : Nat × Nat} {u : Value}
    (h : w1.ownsRow B e size v n xs) (hp : w1.heap[p]? = some (.cells c 60 f)) (he : e ≠ 60) : (w1.setCell ⟨p, j, none⟩ u).ownsRow B e size v n xs :=
  ownsRow_setCell_other h (row_type h hp (Ne.symm he)) u
theorem grown_of_alloc {w w1 : World} {o : Obj} {r : Option Nat} (h : (w.alloc o).grownBy w1 r) : w.grownBy w1 r :=
  grown_trans (World.grownBy_alloc w o r) h
theorem grown_of_drew {w w1 : World} {r : Option Nat} (h : w.drew.grownBy w1 r) : w.grownBy w1 r := ⟨h.os, h.tape, h.output, h.size, h.block⟩
/-- A write into the reader's own block, behind new blocks and a write into one of its rows. -/
theorem below_field {w w1 : World} {B p j : Nat} {u : Value} {r : Option Nat} (hg : w.grownBy w1 r) (hr : ∀ k, r = some k → B ≤ k) (hB : B ≤ p) (hplt : p < w.heap.size) : Below B w (w1.setCell ⟨p, j, none⟩ u) :=
  ⟨hg.os, hg.tape, hg.output, by have := hg.size; simp; omega, fun k hk => by
    rw [setCell_block (by simp; omega)]
    exact hg.block k (by omega) (fun e => by have := hr k e.symm; omega)⟩
theorem keep_field {w w1 : World} {p j : Nat} {u : Value} {r : Option Nat} {c : Array Value} {f : Nat × Nat} (hp : w.heap[p]? = some (.cells c 60 f)) (hg : w.grownBy w1 r)
    (hr : ∀ b, r = some b → ∀ c t f, w.heap[b]? = some (.cells c t f) → t ≠ 9 ∧ t ≠ 72 ∧ t ≠ 78) : Keep w (w1.setCell ⟨p, j, none⟩ u) := by
  intro k c' t f' ht hk
  have hkp : k ≠ p := by
    intro e; subst e
    rw [hp] at hk; injection hk with hk; injection hk with _ h2 _
    subst h2
    rcases ht with h | h | h <;> exact absurd h (by decide)
  rw [setCell_block (by simpa using hkp)]
  exact keep_grown hg hr k c' t f' ht hk
theorem row_kinds {w : World} {B : Nat} {e : TypeId} {size : Nat} {v : Value} {n : Nat} {xs : List Value} (h : w.ownsRow B e size v n xs) (he : e ≠ 9 ∧ e ≠ 72 ∧ e ≠ 78) :
    ∀ b, v.ownBlock = some b → ∀ c t f, w.heap[b]? = some (.cells c t f) → t ≠ 9 ∧ t ≠ 72 ∧ t ≠ 78 := by
  intro b hb c t f hk
  by_cases ht : t = e
  · subst ht; exact he
  · exact absurd hb (row_type h hk ht)
theorem rd_want {w w1 : World} {B p bx : Nat} {st : RdSt} {X : Ins} {vl vb vn vw v' : Value} {bm : Nat} {y : Int × Int × ByteArray}
    (hp : w.heap[p]? = some (.cells #[vl, vb, vn, .map (some bm), vw] 60 (0, 0))) (hBp : B ≤ p) (hl : w.ownsRow B 37 7 vl st.code.length (flatIns st.code)) (hne : vl.ownBlock ≠ some bx)
    (hb : w.ownsRow B 33 2 vb st.labels.length (flatLab st.labels)) (hn : w.ownsRow B 3 1 vn st.lines.length (flatInt st.lines)) (hw : w.ownsRow B 64 3 vw st.wants.length (flatWant st.wants))
    (hbm : B ≤ bm) (hm : w.heap[bm]? = some (.map (mapEnts st.labels) st.labels.length)) (hx : InsAt w bx X) (hB : B ≤ bx)
    (hown : w1.ownsRow B 64 3 v' (st.wants.length + 1) (flatWant st.wants ++ [.int .i64 y.1, .int .i64 y.2.1, .string y.2.2])) (hg : w.grownBy w1 vw.ownBlock) :
    RdAt (w1.setCell ⟨p, 4, none⟩ v') B p bx { st with wants := st.wants ++ [y] } ∧ InsAt (w1.setCell ⟨p, 4, none⟩ v') bx X ∧ Below B w (w1.setCell ⟨p, 4, none⟩ v') ∧ Keep w (w1.setCell ⟨p, 4, none⟩ v') := by
  have hplt : p < w.heap.size := (Array.getElem?_eq_some_iff.1 hp).1
  have hwp : vw.ownBlock ≠ some p := row_type hw hp (by decide)
  have hp1 : w1.heap[p]? = some (.cells #[vl, vb, vn, .map (some bm), vw] 60 (0, 0)) := by rw [hg.block p hplt (Ne.symm hwp)]; exact hp
  have hpx : bx ≠ p := by
    intro e; subst e; unfold InsAt at hx; rw [hx] at hp; injection hp with hp; injection hp with _ h2 _; exact absurd h2 (by decide)
  have hpm : bm ≠ p := by
    intro e; subst e; rw [hm] at hp; injection hp with hp; cases hp
  refine ⟨⟨vl, vb, vn, v', bm, ?_, hBp, row_keep hl hg (rows_ne hl hw (by decide)) hp1 (by decide), hne, row_keep hb hg (rows_ne hb hw (by decide)) hp1 (by decide), row_keep hn hg (rows_ne hn hw (by decide)) hp1 (by decide), ?_, hbm, ?_⟩, ?_, ?_, ?_⟩
  · exact setCell_row hp1
  · have := own_set (j := 4) (u := v') hown hp1 (by decide)
    simpa [flatWant] using this
  · rw [setCell_block (by simpa using hpm), hg.block bm (Array.getElem?_eq_some_iff.1 hm).1 (Ne.symm (row_map hw hm))]; exact hm
  · unfold InsAt
    rw [setCell_block (by simpa using hpx), hg.block bx hx.lt (Ne.symm (row_type hw hx (by decide)))]; exact hx
  · exact below_field hg (fun k hk => (hw.lt k hk).1) hBp hplt
  · exact keep_field hp hg (row_kinds hw (by decide))

set_option maxRecDepth 100000 in
set_option maxHeartbeats 4000000 in
/-- A place is named. -/
theorem opnd_want (s : ByteArray) (hs : s.size ≤ 65536) (kind line : Int) (hk : kind = 8 ∨ kind = 9) (hn : nameV s = true) (B p bx : Nat) (st : RdSt) (X : Ins) (w : World)
    (hx : InsAt w bx X) (hrd : RdAt w B p bx st) (hB : B ≤ bx) (hlen : st.wants.length ≤ 1048576) :
    Calls Tryd.prog 37 #[.pointer (some ⟨p, 0, none⟩), .pointer (some ⟨bx, 0, none⟩), .int .i64 kind, .string s, .int .i64 line] w
      (OpndDone (.ok ({ st with wants := st.wants ++ [((st.code.length : Int), line, s)] }, X)) B p bx line w) := by
  obtain ⟨i0, hi0, hz0, hz1, hz2⟩ := info_parts info64
  obtain ⟨vl, vb, vn, vw, bm, hp, hBp, hl, hne, hb, hnn, hw, hbm, hm⟩ := hrd
  obtain ⟨al, cl, rfl⟩ := owns_slice hl
  have q0 : w.cell? ⟨p, 0, none⟩ = some (.slice al st.code.length cl) := rowCell hp
  have q4 : w.cell? ⟨p, 4, none⟩ = some vw := rowCell hp
  have g4 : w.frozen? ⟨p, 4, none⟩ = false := rowFree hp
  have hplt : p < w.heap.size := (Array.getElem?_eq_some_iff.1 hp).1
  have hwp : vw.ownBlock ≠ some p := row_type hw hp (by decide)
  have hu : s.size ≤ maxLen := by unfold maxLen; omega
  rcases hr : regV s with ⟨n, b⟩
  have HR := Lib.hid (reg_call s hu n b hr)
  have HN := Lib.hid (named_call s hu true hn)
  clear hr hn hu
  have HP := Lib.hid hp
  have HL := Lib.hid hl
  have HNE := Lib.hid hne
  have HBb := Lib.hid hb
  have HNn := Lib.hid hnn
  have HM := Lib.hid hm
  have HX := Lib.hid hx
  have HI0 := Lib.hid hi0
  clear hp hl hne hb hnn hm hx hi0
  rcases hk with rfl | rfl
  · go_enter Tryd.func37, Tryd.ntmps37
    go_wp2_with (first | (go_at_call 56; refine (HR.out _).mono ?_; rintro e w' ⟨rfl, rfl⟩) | (go_at_call 35; refine (HN.out _).mono ?_; rintro e w' ⟨rfl, rfl⟩))
    go_region_law (first | (refine step_append_lies _ (by rfl) _ _ _ (by rfl) B 64 i0 _ 3 32 Tryd.underlying58 HI0.out hz0 hz1 hz2 rfl (by omega) vw st.wants.length (flatWant st.wants) (by rfl) ((hw.alloc _).drew) ⟨w.heap.size, 0, none⟩ 1 1 [.int .i64 st.code.length, .int .i64 line, .string s] (by rfl) (by rfl) (World.news_of_block (cs := #[.int .i64 st.code.length, .int .i64 line, .string s]) (t := 64) (fr := (0, 0)) (heap_alloc_new w _)) (by simp [Value.oneCell']) (by omega) (by unfold maxLen; omega) (by omega) (by simp; omega) (w.heap.size + 1) (by simp) ?_; intro gg cap w1 hown1 hgrow hat hlt; have r4 : w1.cell? ⟨p, 4, none⟩ = some vw := (hgrow.cell_far ⟨p, 4, none⟩ (by simp; omega) (Ne.symm hwp)).trans (by simp [go_sem, World.cell?_alloc_past, hplt, q4]); have r5 : w1.frozen? ⟨p, 4, none⟩ = false := (hgrow.frozen_far ⟨p, 4, none⟩ (by simp; omega) (Ne.symm hwp)).trans (by simp [go_sem, World.frozen?_alloc_past, hplt, g4])))
    all_goals
      go_wp2
      go_ret
      obtain ⟨r1, r2, r3, r4⟩ := rd_want (y := ((st.code.length : Int), line, s)) HP.out hBp HL.out HNE.out HBb.out HNn.out hw hbm HM.out HX.out hB (by simpa using hown1) (grown_of_alloc (grown_of_drew hgrow))
      exact ⟨rfl, r1, r2, r3, r4⟩
  · go_enter Tryd.func37, Tryd.ntmps37
    go_wp2_with (first | (go_at_call 56; refine (HR.out _).mono ?_; rintro e w' ⟨rfl, rfl⟩) | (go_at_call 35; refine (HN.out _).mono ?_; rintro e w' ⟨rfl, rfl⟩))
    go_region_law (first | (refine step_append_lies _ (by rfl) _ _ _ (by rfl) B 64 i0 _ 3 32 Tryd.underlying58 HI0.out hz0 hz1 hz2 rfl (by omega) vw st.wants.length (flatWant st.wants) (by rfl) ((hw.alloc _).drew) ⟨w.heap.size, 0, none⟩ 1 1 [.int .i64 st.code.length, .int .i64 line, .string s] (by rfl) (by rfl) (World.news_of_block (cs := #[.int .i64 st.code.length, .int .i64 line, .string s]) (t := 64) (fr := (0, 0)) (heap_alloc_new w _)) (by simp [Value.oneCell']) (by omega) (by unfold maxLen; omega) (by omega) (by simp; omega) (w.heap.size + 1) (by simp) ?_; intro gg cap w1 hown1 hgrow hat hlt; have r4 : w1.cell? ⟨p, 4, none⟩ = some vw := (hgrow.cell_far ⟨p, 4, none⟩ (by simp; omega) (Ne.symm hwp)).trans (by simp [go_sem, World.cell?_alloc_past, hplt, q4]); have r5 : w1.frozen? ⟨p, 4, none⟩ = false := (hgrow.frozen_far ⟨p, 4, none⟩ (by simp; omega) (Ne.symm hwp)).trans (by simp [go_sem, World.frozen?_alloc_past, hplt, g4])))
    all_goals
      go_wp2
      go_ret
      obtain ⟨r1, r2, r3, r4⟩ := rd_want (y := ((st.code.length : Int), line, s)) HP.out hBp HL.out HNE.out HBb.out HNn.out hw hbm HM.out HX.out hB (by simpa using hown1) (grown_of_alloc (grown_of_drew hgrow))
      exact ⟨rfl, r1, r2, r3, r4⟩
end Go.Proofs.YtnoejikcdigceaaDoor
