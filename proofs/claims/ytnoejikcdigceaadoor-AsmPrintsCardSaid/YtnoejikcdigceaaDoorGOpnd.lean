/- asm.reader.operand at kinds that name no place: contract. asm.reader.operand at kinds that may name a place: contract. asm.reader.operand: contract. -/
import Derived.Test.YtnoejikcdigceaaDoorRd
import Derived.Deep.RegionHeld3
import Derived.Deep.AppendLies
import Derived.Deep.RegionLaw
set_option linter.unusedVariables false
set_option linter.unusedSimpArgs false
namespace Go.Proofs.YtnoejikcdigceaaDoor
open Go.RowKit
set_option maxHeartbeats 4000000 in
/-- A register is wanted. -/
theorem opnd_reg (s : ByteArray) (hs : s.size ≤ 65536) (kind line : Int) (hk : kind = 1 ∨ kind = 2 ∨ kind = 3) (pr bx : Nat) (X : Ins) (w : World) (hx : InsAt w bx X) :
    Calls Tryd.prog 37 #[.pointer (some ⟨pr, 0, none⟩), .pointer (some ⟨bx, 0, none⟩), .int .i64 kind, .string s, .int .i64 line] w (OpDone (opndX X kind s) bx line w) := by
  have c1 : w.cell? ⟨bx, 1, none⟩ = some (.int .i64 X.a) := hx.cell 1
  have c2 : w.cell? ⟨bx, 2, none⟩ = some (.int .i64 X.b) := hx.cell 2
  have c3 : w.cell? ⟨bx, 3, none⟩ = some (.int .i64 X.c) := hx.cell 3
  have f1 := hx.free 1
  have f2 := hx.free 2
  have f3 := hx.free 3
  have hlt := hx.lt
  have HX := Lib.hid hx
  clear hx
  have hu : s.size ≤ maxLen := by unfold maxLen; omega
  rcases hr : regV s with ⟨n, b⟩
  have HR := Lib.hid (reg_call s hu n b hr)
  clear hu
  cases b
  · rcases hk with rfl | rfl | rfl
    · have HE : Hid (opndX X 1 s = .error true) := by show _ = _; unfold opndX; rw [hr]; rfl
      clear hr
      go_enter Tryd.func37, Tryd.ntmps37
      go_wp2_with (first | (go_at_call 56; refine (HR.out _).mono ?_; rintro e w' ⟨rfl, rfl⟩) | (go_at_call 19; refine (afail_any _ _ _ _).mono ?_; rintro e w' ⟨rfl, rfl⟩))
      go_ret
      exact OpDone.text HE.out (by simp) (grown_refl w _)
    · have HE : Hid (opndX X 2 s = .error true) := by show _ = _; unfold opndX; rw [hr]; rfl
      clear hr
      go_enter Tryd.func37, Tryd.ntmps37
      go_wp2_with (first | (go_at_call 56; refine (HR.out _).mono ?_; rintro e w' ⟨rfl, rfl⟩) | (go_at_call 19; refine (afail_any _ _ _ _).mono ?_; rintro e w' ⟨rfl, rfl⟩))
      go_ret
      exact OpDone.text HE.out (by simp) (grown_refl w _)
    · have HE : Hid (opndX X 3 s = .error true) := by show _ = _; unfold opndX; rw [hr]; rfl
      clear hr
      go_enter Tryd.func37, Tryd.ntmps37
      go_wp2_with (first | (go_at_call 56; refine (HR.out _).mono ?_; rintro e w' ⟨rfl, rfl⟩) | (go_at_call 19; refine (afail_any _ _ _ _).mono ?_; rintro e w' ⟨rfl, rfl⟩))
      go_ret
      exact OpDone.text HE.out (by simp) (grown_refl w _)
  · rcases hk with rfl | rfl | rfl
    · have HE : Hid (opndX X 1 s = .ok { X with a := n }) := by show _ = _; unfold opndX; rw [hr]; rfl
      clear hr
      go_enter Tryd.func37, Tryd.ntmps37
      go_wp2_with (go_at_call 56; refine (HR.out _).mono ?_; rintro e w' ⟨rfl, rfl⟩)
      go_ret
      exact OpDone.good _ HE.out (HX.out.set_a n) (grown_set (grown_refl w _) _ _)
    · have HE : Hid (opndX X 2 s = .ok { X with b := n }) := by show _ = _; unfold opndX; rw [hr]; rfl
      clear hr
      go_enter Tryd.func37, Tryd.ntmps37
      go_wp2_with (go_at_call 56; refine (HR.out _).mono ?_; rintro e w' ⟨rfl, rfl⟩)
      go_ret
      exact OpDone.good _ HE.out (HX.out.set_b n) (grown_set (grown_refl w _) _ _)
    · have HE : Hid (opndX X 3 s = .ok { X with c := n }) := by show _ = _; unfold opndX; rw [hr]; rfl
      clear hr
      go_enter Tryd.func37, Tryd.ntmps37
      go_wp2_with (go_at_call 56; refine (HR.out _).mono ?_; rintro e w' ⟨rfl, rfl⟩)
      go_ret
      exact OpDone.good _ HE.out (HX.out.set_c n) (grown_set (grown_refl w _) _ _)

set_option maxHeartbeats 4000000 in
/-- A register or a number, or a number alone, or a cell. -/
theorem opnd_num (s : ByteArray) (hs : s.size ≤ 65536) (kind line : Int) (hk : kind = 4 ∨ kind = 5 ∨ kind = 7 ∨ kind = 6) (pr bx : Nat) (X : Ins) (w : World) (hx : InsAt w bx X) :
    Calls Tryd.prog 37 #[.pointer (some ⟨pr, 0, none⟩), .pointer (some ⟨bx, 0, none⟩), .int .i64 kind, .string s, .int .i64 line] w (OpDone (opndX X kind s) bx line w) := by
  have c2 : w.cell? ⟨bx, 2, none⟩ = some (.int .i64 X.b) := hx.cell 2
  have c3 : w.cell? ⟨bx, 3, none⟩ = some (.int .i64 X.c) := hx.cell 3
  have c4 : w.cell? ⟨bx, 4, none⟩ = some (.int .u64 X.v) := hx.cell 4
  have f2 := hx.free 2
  have f3 := hx.free 3
  have f4 := hx.free 4
  have hlt := hx.lt
  have HX := Lib.hid hx
  clear hx
  have hu : s.size ≤ maxLen := by unfold maxLen; omega
  rcases hr : regV s with ⟨n, b⟩
  have HR := Lib.hid (reg_call s hu n b hr)
  rcases hk with rfl | rfl | rfl | rfl
  · cases b
    · rcases hp : wparse s with j | v
      · have HE : Hid (opndX X 4 s = .error false) := by show _ = _; unfold opndX; rw [hr, hp]; rfl
        have HN := Lib.hid (number_er s hu j hp)
        clear hp hr hu
        go_enter Tryd.func37, Tryd.ntmps37
        go_wp2_with (first | (go_at_call 56; refine (HR.out _).mono ?_; rintro e w' ⟨rfl, rfl⟩) | (go_at_call 57; refine (HN.out _ _).mono ?_; rintro e w' ⟨rfl, rfl⟩))
        go_ret
        exact OpDone.num HE.out (by simp) (by repeat (first | exact grown_refl _ _ | refine grown_set ?_ _ _ | refine grown_alloc ?_ _))
      · have HE : Hid (opndX X 4 s = .ok { ({ X with c := -1 } : Ins) with v := v }) := by show _ = _; unfold opndX; rw [hr, hp]; rfl
        have HN := Lib.hid (number_ok s hu v hp)
        clear hp hr hu
        go_enter Tryd.func37, Tryd.ntmps37
        go_wp2_with (first | (go_at_call 56; refine (HR.out _).mono ?_; rintro e w' ⟨rfl, rfl⟩) | (go_at_call 57; refine (HN.out _ _).mono ?_; rintro e w' ⟨rfl, h0, hv1, rfl⟩))
        go_ret
        exact OpDone.good _ HE.out ((HX.out.set_c (-1)).set_v v) (grown_set (grown_set (grown_refl w _) _ _) _ _)
    · have HE : Hid (opndX X 4 s = .ok { X with c := n }) := by show _ = _; unfold opndX; rw [hr]; rfl
      clear hr hu
      go_enter Tryd.func37, Tryd.ntmps37
      go_wp2_with (go_at_call 56; refine (HR.out _).mono ?_; rintro e w' ⟨rfl, rfl⟩)
      go_ret
      exact OpDone.good _ HE.out (HX.out.set_c n) (grown_set (grown_refl w _) _ _)
  · cases b
    · rcases hp : wparse s with j | v
      · have HE : Hid (opndX X 5 s = .error false) := by show _ = _; unfold opndX; rw [hr, hp]; rfl
        have HN := Lib.hid (number_er s hu j hp)
        clear hp hr hu
        go_enter Tryd.func37, Tryd.ntmps37
        go_wp2_with (first | (go_at_call 56; refine (HR.out _).mono ?_; rintro e w' ⟨rfl, rfl⟩) | (go_at_call 57; refine (HN.out _ _).mono ?_; rintro e w' ⟨rfl, rfl⟩))
        go_ret
        exact OpDone.num HE.out (by simp) (by repeat (first | exact grown_refl _ _ | refine grown_set ?_ _ _ | refine grown_alloc ?_ _))
      · have HE : Hid (opndX X 5 s = .ok { ({ X with b := -1 } : Ins) with v := v }) := by show _ = _; unfold opndX; rw [hr, hp]; rfl
        have HN := Lib.hid (number_ok s hu v hp)
        clear hp hr hu
        go_enter Tryd.func37, Tryd.ntmps37
        go_wp2_with (first | (go_at_call 56; refine (HR.out _).mono ?_; rintro e w' ⟨rfl, rfl⟩) | (go_at_call 57; refine (HN.out _ _).mono ?_; rintro e w' ⟨rfl, h0, hv1, rfl⟩))
        go_ret
        exact OpDone.good _ HE.out ((HX.out.set_b (-1)).set_v v) (grown_set (grown_set (grown_refl w _) _ _) _ _)
    · have HE : Hid (opndX X 5 s = .ok { X with b := n }) := by show _ = _; unfold opndX; rw [hr]; rfl
      clear hr hu
      go_enter Tryd.func37, Tryd.ntmps37
      go_wp2_with (go_at_call 56; refine (HR.out _).mono ?_; rintro e w' ⟨rfl, rfl⟩)
      go_ret
      exact OpDone.good _ HE.out (HX.out.set_b n) (grown_set (grown_refl w _) _ _)
  · rcases hp : wparse s with j | v
    · have HE : Hid (opndX X 7 s = .error false) := by show _ = _; unfold opndX; rw [hr, hp]; rfl
      have HN := Lib.hid (number_er s hu j hp)
      clear hp hr hu
      go_enter Tryd.func37, Tryd.ntmps37
      go_wp2_with (first | (go_at_call 56; refine (HR.out _).mono ?_; rintro e w' ⟨rfl, rfl⟩) | (go_at_call 57; refine (HN.out _ _).mono ?_; rintro e w' ⟨rfl, rfl⟩))
      go_ret
      exact OpDone.num HE.out (by simp) (by repeat (first | exact grown_refl _ _ | refine grown_set ?_ _ _ | refine grown_alloc ?_ _))
    · have HE : Hid (opndX X 7 s = .ok { X with v := v }) := by show _ = _; unfold opndX; rw [hr, hp]; rfl
      have HN := Lib.hid (number_ok s hu v hp)
      clear hp hr hu
      go_enter Tryd.func37, Tryd.ntmps37
      go_wp2_with (first | (go_at_call 56; refine (HR.out _).mono ?_; rintro e w' ⟨rfl, rfl⟩) | (go_at_call 57; refine (HN.out _ _).mono ?_; rintro e w' ⟨rfl, h0, hv1, rfl⟩))
      go_ret
      exact OpDone.good _ HE.out ((HX.out).set_v v) (grown_set (grown_refl w _) _ _)
  · have HE : Hid (opndX X 6 s = cellV X s) := by show _ = _; unfold opndX; rfl
    clear hr hu
    rcases hc : cellV X s with t | X'
    · have HC := Lib.hid (show Calls Tryd.prog 58 #[.pointer (some ⟨bx, 0, none⟩), .string s, .int .i64 line] w (OpDone (.error t) bx line w) from hc ▸ cell_any s hs line bx X w HX.out)
      have HE2 : Hid (opndX X 6 s = .error t) := HE.out.trans hc
      clear hc
      go_enter Tryd.func37, Tryd.ntmps37
      go_wp2_with (first | (go_at_call 56; refine (HR.out _).mono ?_; rintro e w' ⟨rfl, rfl⟩) | (go_at_call 58; refine HC.out.mono ?_; rintro e w' ⟨v, rfl, h1, h2⟩))
      go_ret
      rw [HE2.out]
      exact ⟨v, rfl, h1, h2⟩
    · have HC := Lib.hid (show Calls Tryd.prog 58 #[.pointer (some ⟨bx, 0, none⟩), .string s, .int .i64 line] w (OpDone (.ok X') bx line w) from hc ▸ cell_any s hs line bx X w HX.out)
      have HE2 : Hid (opndX X 6 s = .ok X') := HE.out.trans hc
      clear hc
      go_enter Tryd.func37, Tryd.ntmps37
      go_wp2_with (first | (go_at_call 56; refine (HR.out _).mono ?_; rintro e w' ⟨rfl, rfl⟩) | (go_at_call 58; refine HC.out.mono ?_; rintro e w' ⟨rfl, h1, h2⟩))
      go_ret
      rw [HE2.out]
      exact ⟨rfl, h1, h2⟩
end Go.Proofs.YtnoejikcdigceaaDoor

set_option linter.unusedVariables false
set_option linter.unusedSimpArgs false
namespace Go.Proofs.YtnoejikcdigceaaDoor
open Go.RowKit
theorem info64 : (Tryd.prog.info? 64).map (fun i => (i.zero, i.size, i.bytes)) = some (some (.agg #[.int .i64 0, .int .i64 0, .string ByteArray.empty]), 3, 32) := by kernel_rfl
theorem owns_slice {w : World} {B : Nat} {e : TypeId} {size : Nat} {v : Value} {n : Nat} {xs : List Value} (h : w.ownsRow B e size v n xs) : ∃ a c, v = .slice a n c := by
  rcases h.2 with ⟨rfl, rfl⟩ | ⟨g, cap, cur, rfl, _⟩
  · exact ⟨_, _, rfl⟩
  · exact ⟨_, _, rfl⟩
theorem named_call (s : ByteArray) (hs : s.size ≤ maxLen) (b : Bool) (h : nameV s = b) (w : World) : Calls Tryd.prog 35 #[.string s] w (RetB b w) := by rw [← h]; exact named_any s hs w
theorem rowCell {w : World} {b i : Nat} {c : Array Value} {t : TypeId} (h : w.heap[b]? = some (.cells c t (0, 0))) : w.cell? ⟨b, i, none⟩ = c[i]? := cell_of_row w b i _ _ _ h
theorem rowFree {w : World} {b i : Nat} {c : Array Value} {t : TypeId} (h : w.heap[b]? = some (.cells c t (0, 0))) : w.frozen? ⟨b, i, none⟩ = false := by
  unfold World.frozen?; simp only [h]; simp

theorem rows_ne {w : World} {B B' : Nat} {e e' : TypeId} {size size' : Nat} {v v' : Value} {n n' : Nat} {xs xs' : List Value} (h : w.ownsRow B e size v n xs) (h' : w.ownsRow B' e' size' v' n' xs') (hne : e ≠ e') : v.ownBlock = none ∨ v.ownBlock ≠ v'.ownBlock := by
  rcases h.2 with ⟨rfl, _⟩ | ⟨g, cap, cur, rfl, _, hg, _⟩
  · exact Or.inl rfl
  · refine Or.inr fun heq => ?_
    have := row_type h' hg hne
    exact this heq.symm
theorem row_keep {w w1 : World} {B : Nat} {e : TypeId} {size : Nat} {v : Value} {n : Nat} {xs : List Value} {r : Option Nat} {p j : Nat} {c : Array Value} {f : Nat × Nat} {u : Value}
    (h : w.ownsRow B e size v n xs) (hg : w.grownBy w1 r) (hne : v.ownBlock = none ∨ v.ownBlock ≠ r) (hp : w1.heap[p]? = some (.cells c 60 f)) (he : e ≠ 60) :
    (w1.setCell ⟨p, j, none⟩ u).ownsRow B e size v n xs :=
  ownsRow_setCell_other (h.kept hg hne) (row_type (h.kept hg hne) hp (Ne.symm he)) u
theorem own_set {w1 : World} {B : Nat} {e : TypeId} {size : Nat} {v : Value} {n : Nat} {xs : List Value} {p j : Nat} {c : Array Value} {f : Nat × Nat} {u : Value}
    (h : w1.ownsRow B e size v n xs) (hp : w1.heap[p]? = some (.cells c 60 f)) (he : e ≠ 60) : (w1.setCell ⟨p, j, none⟩ u).ownsRow B e size v n xs :=
  ownsRow_setCell_other h (row_type h hp (Ne.symm he)) u
theorem grown_of_alloc {w w1 : World} {o : Obj} {r : Option Nat} (h : (w.alloc o).grownBy w1 r) : w.grownBy w1 r :=
  grown_trans (World.grownBy_alloc w o r) h
theorem grown_of_drew {w w1 : World} {r : Option Nat} (h : w.drew.grownBy w1 r) : w.grownBy w1 r := ⟨h.os, h.tape, h.output, h.size, h.block⟩
/-- A write into the reader's own block, behind new blocks and a write into one of its rows. -/
theorem below_field {w w1 : World} {B p j : Nat} {u : Value} {r : Option Nat} (hg : w.grownBy w1 r) (hr : ∀ k, r = some k → B ≤ k) (hB : B ≤ p) (hplt : p < w.heap.size) : Below B w (w1.setCell ⟨p, j, none⟩ u) :=
  ⟨hg.os, hg.tape, hg.output, by have := hg.size; simp; omega, fun k hk => by
    rw [setCell_block (by simp; omega)]
    exact hg.block k (by omega) (fun e => by have := hr k e.symm; omega)⟩
theorem keep_field {w w1 : World} {p j : Nat} {u : Value} {r : Option Nat} {c : Array Value} {f : Nat × Nat} (hp : w.heap[p]? = some (.cells c 60 f)) (hg : w.grownBy w1 r)
    (hr : ∀ b, r = some b → ∀ c t f, w.heap[b]? = some (.cells c t f) → t ≠ 9 ∧ t ≠ 72 ∧ t ≠ 78) : Keep w (w1.setCell ⟨p, j, none⟩ u) := by
  intro k c' t f' ht hk
  have hkp : k ≠ p := by
    intro e; subst e
    rw [hp] at hk; injection hk with hk; injection hk with _ h2 _
    subst h2
    rcases ht with h | h | h <;> exact absurd h (by decide)
  rw [setCell_block (by simpa using hkp)]
  exact keep_grown hg hr k c' t f' ht hk
theorem row_kinds {w : World} {B : Nat} {e : TypeId} {size : Nat} {v : Value} {n : Nat} {xs : List Value} (h : w.ownsRow B e size v n xs) (he : e ≠ 9 ∧ e ≠ 72 ∧ e ≠ 78) :
    ∀ b, v.ownBlock = some b → ∀ c t f, w.heap[b]? = some (.cells c t f) → t ≠ 9 ∧ t ≠ 72 ∧ t ≠ 78 := by
  intro b hb c t f hk
  by_cases ht : t = e
  · subst ht; exact he
  · exact absurd hb (row_type h hk ht)
theorem rd_want {w w1 : World} {B p bx : Nat} {st : RdSt} {X : Ins} {vl vb vn vw v' : Value} {bm : Nat} {y : Int × Int × ByteArray}
    (hp : w.heap[p]? = some (.cells #[vl, vb, vn, .map (some bm), vw] 60 (0, 0))) (hBp : B ≤ p) (hl : w.ownsRow B 37 7 vl st.code.length (flatIns st.code)) (hne : vl.ownBlock ≠ some bx)
    (hb : w.ownsRow B 33 2 vb st.labels.length (flatLab st.labels)) (hn : w.ownsRow B 3 1 vn st.lines.length (flatInt st.lines)) (hw : w.ownsRow B 64 3 vw st.wants.length (flatWant st.wants))
    (hbm : B ≤ bm) (hm : w.heap[bm]? = some (.map (mapEnts st.labels) st.labels.length)) (hx : InsAt w bx X) (hB : B ≤ bx)
    (hown : w1.ownsRow B 64 3 v' (st.wants.length + 1) (flatWant st.wants ++ [.int .i64 y.1, .int .i64 y.2.1, .string y.2.2])) (hg : w.grownBy w1 vw.ownBlock) :
    RdAt (w1.setCell ⟨p, 4, none⟩ v') B p bx { st with wants := st.wants ++ [y] } ∧ InsAt (w1.setCell ⟨p, 4, none⟩ v') bx X ∧ Below B w (w1.setCell ⟨p, 4, none⟩ v') ∧ Keep w (w1.setCell ⟨p, 4, none⟩ v') := by
  have hplt : p < w.heap.size := (Array.getElem?_eq_some_iff.1 hp).1
  have hwp : vw.ownBlock ≠ some p := row_type hw hp (by decide)
  have hp1 : w1.heap[p]? = some (.cells #[vl, vb, vn, .map (some bm), vw] 60 (0, 0)) := by rw [hg.block p hplt (Ne.symm hwp)]; exact hp
  have hpx : bx ≠ p := by
    intro e; subst e; unfold InsAt at hx; rw [hx] at hp; injection hp with hp; injection hp with _ h2 _; exact absurd h2 (by decide)
  have hpm : bm ≠ p := by
    intro e; subst e; rw [hm] at hp; injection hp with hp; cases hp
  refine ⟨⟨vl, vb, vn, v', bm, ?_, hBp, row_keep hl hg (rows_ne hl hw (by decide)) hp1 (by decide), hne, row_keep hb hg (rows_ne hb hw (by decide)) hp1 (by decide), row_keep hn hg (rows_ne hn hw (by decide)) hp1 (by decide), ?_, hbm, ?_⟩, ?_, ?_, ?_⟩
  · exact setCell_row hp1
  · have := own_set (j := 4) (u := v') hown hp1 (by decide)
    simpa [flatWant] using this
  · rw [setCell_block (by simpa using hpm), hg.block bm (Array.getElem?_eq_some_iff.1 hm).1 (Ne.symm (row_map hw hm))]; exact hm
  · unfold InsAt
    rw [setCell_block (by simpa using hpx), hg.block bx hx.lt (Ne.symm (row_type hw hx (by decide)))]; exact hx
  · exact below_field hg (fun k hk => (hw.lt k hk).1) hBp hplt
  · exact keep_field hp hg (row_kinds hw (by decide))

set_option maxRecDepth 100000 in
set_option maxHeartbeats 4000000 in
/-- A place is named. -/
theorem opnd_want (s : ByteArray) (hs : s.size ≤ 65536) (kind line : Int) (hk : kind = 8 ∨ kind = 9) (hn : nameV s = true) (B p bx : Nat) (st : RdSt) (X : Ins) (w : World)
    (hx : InsAt w bx X) (hrd : RdAt w B p bx st) (hB : B ≤ bx) (hlen : st.wants.length ≤ 1048576) :
    Calls Tryd.prog 37 #[.pointer (some ⟨p, 0, none⟩), .pointer (some ⟨bx, 0, none⟩), .int .i64 kind, .string s, .int .i64 line] w
      (OpndDone (.ok ({ st with wants := st.wants ++ [((st.code.length : Int), line, s)] }, X)) B p bx line w) := by
  obtain ⟨i0, hi0, hz0, hz1, hz2⟩ := info_parts info64
  obtain ⟨vl, vb, vn, vw, bm, hp, hBp, hl, hne, hb, hnn, hw, hbm, hm⟩ := hrd
  obtain ⟨al, cl, rfl⟩ := owns_slice hl
  have q0 : w.cell? ⟨p, 0, none⟩ = some (.slice al st.code.length cl) := rowCell hp
  have q4 : w.cell? ⟨p, 4, none⟩ = some vw := rowCell hp
  have g4 : w.frozen? ⟨p, 4, none⟩ = false := rowFree hp
  have hplt : p < w.heap.size := (Array.getElem?_eq_some_iff.1 hp).1
  have hwp : vw.ownBlock ≠ some p := row_type hw hp (by decide)
  have hu : s.size ≤ maxLen := by unfold maxLen; omega
  rcases hr : regV s with ⟨n, b⟩
  have HR := Lib.hid (reg_call s hu n b hr)
  have HN := Lib.hid (named_call s hu true hn)
  clear hr hn hu
  have HP := Lib.hid hp
  have HL := Lib.hid hl
  have HNE := Lib.hid hne
  have HBb := Lib.hid hb
  have HNn := Lib.hid hnn
  have HM := Lib.hid hm
  have HX := Lib.hid hx
  have HI0 := Lib.hid hi0
  clear hp hl hne hb hnn hm hx hi0
  rcases hk with rfl | rfl
  · go_enter Tryd.func37, Tryd.ntmps37
    go_wp2_with (first | (go_at_call 56; refine (HR.out _).mono ?_; rintro e w' ⟨rfl, rfl⟩) | (go_at_call 35; refine (HN.out _).mono ?_; rintro e w' ⟨rfl, rfl⟩))
    go_region_law (first | (refine step_append_lies _ (by rfl) _ _ _ (by rfl) B 64 i0 _ 3 32 Tryd.underlying58 HI0.out hz0 hz1 hz2 rfl (by omega) vw st.wants.length (flatWant st.wants) (by rfl) ((hw.alloc _).drew) ⟨w.heap.size, 0, none⟩ 1 1 [.int .i64 st.code.length, .int .i64 line, .string s] (by rfl) (by rfl) (World.news_of_block (cs := #[.int .i64 st.code.length, .int .i64 line, .string s]) (t := 64) (fr := (0, 0)) (heap_alloc_new w _)) (by simp [Value.oneCell']) (by omega) (by unfold maxLen; omega) (by omega) (by simp; omega) (w.heap.size + 1) (by simp) ?_; intro gg cap w1 hown1 hgrow hat hlt; have r4 : w1.cell? ⟨p, 4, none⟩ = some vw := (hgrow.cell_far ⟨p, 4, none⟩ (by simp; omega) (Ne.symm hwp)).trans (by simp [go_sem, World.cell?_alloc_past, hplt, q4]); have r5 : w1.frozen? ⟨p, 4, none⟩ = false := (hgrow.frozen_far ⟨p, 4, none⟩ (by simp; omega) (Ne.symm hwp)).trans (by simp [go_sem, World.frozen?_alloc_past, hplt, g4])))
    all_goals
      go_wp2
      go_ret
      obtain ⟨r1, r2, r3, r4⟩ := rd_want (y := ((st.code.length : Int), line, s)) HP.out hBp HL.out HNE.out HBb.out HNn.out hw hbm HM.out HX.out hB (by simpa using hown1) (grown_of_alloc (grown_of_drew hgrow))
      exact ⟨rfl, r1, r2, r3, r4⟩
  · go_enter Tryd.func37, Tryd.ntmps37
    go_wp2_with (first | (go_at_call 56; refine (HR.out _).mono ?_; rintro e w' ⟨rfl, rfl⟩) | (go_at_call 35; refine (HN.out _).mono ?_; rintro e w' ⟨rfl, rfl⟩))
    go_region_law (first | (refine step_append_lies _ (by rfl) _ _ _ (by rfl) B 64 i0 _ 3 32 Tryd.underlying58 HI0.out hz0 hz1 hz2 rfl (by omega) vw st.wants.length (flatWant st.wants) (by rfl) ((hw.alloc _).drew) ⟨w.heap.size, 0, none⟩ 1 1 [.int .i64 st.code.length, .int .i64 line, .string s] (by rfl) (by rfl) (World.news_of_block (cs := #[.int .i64 st.code.length, .int .i64 line, .string s]) (t := 64) (fr := (0, 0)) (heap_alloc_new w _)) (by simp [Value.oneCell']) (by omega) (by unfold maxLen; omega) (by omega) (by simp; omega) (w.heap.size + 1) (by simp) ?_; intro gg cap w1 hown1 hgrow hat hlt; have r4 : w1.cell? ⟨p, 4, none⟩ = some vw := (hgrow.cell_far ⟨p, 4, none⟩ (by simp; omega) (Ne.symm hwp)).trans (by simp [go_sem, World.cell?_alloc_past, hplt, q4]); have r5 : w1.frozen? ⟨p, 4, none⟩ = false := (hgrow.frozen_far ⟨p, 4, none⟩ (by simp; omega) (Ne.symm hwp)).trans (by simp [go_sem, World.frozen?_alloc_past, hplt, g4])))
    all_goals
      go_wp2
      go_ret
      obtain ⟨r1, r2, r3, r4⟩ := rd_want (y := ((st.code.length : Int), line, s)) HP.out hBp HL.out HNE.out HBb.out HNn.out hw hbm HM.out HX.out hB (by simpa using hown1) (grown_of_alloc (grown_of_drew hgrow))
      exact ⟨rfl, r1, r2, r3, r4⟩
end Go.Proofs.YtnoejikcdigceaaDoor

set_option linter.unusedVariables false
set_option linter.unusedSimpArgs false
namespace Go.Proofs.YtnoejikcdigceaaDoor
open Go.RowKit
set_option maxHeartbeats 4000000 in
theorem opnd_else (s : ByteArray) (hs : s.size ≤ 65536) (kind line : Int) (hk : kind = 8 ∨ kind = 9) (hn : nameV s = false) (pr bx : Nat) (X : Ins) (w : World) (hx : InsAt w bx X) :
    Calls Tryd.prog 37 #[.pointer (some ⟨pr, 0, none⟩), .pointer (some ⟨bx, 0, none⟩), .int .i64 kind, .string s, .int .i64 line] w
      (OpDone (if kind = 8 then .error true else numIn X (wparse s)) bx line w) := by
  have c4 : w.cell? ⟨bx, 4, none⟩ = some (.int .u64 X.v) := hx.cell 4
  have f4 := hx.free 4
  have hlt := hx.lt
  have HX := Lib.hid hx
  clear hx
  have hu : s.size ≤ maxLen := by unfold maxLen; omega
  rcases hr : regV s with ⟨n, b⟩
  have HR := Lib.hid (reg_call s hu n b hr)
  have HM := Lib.hid (named_call s hu false hn)
  clear hr hn
  rcases hk with rfl | rfl
  · rw [if_pos rfl]
    clear hu
    go_enter Tryd.func37, Tryd.ntmps37
    go_wp2_with (first | (go_at_call 56; refine (HR.out _).mono ?_; rintro e w' ⟨rfl, rfl⟩) | (go_at_call 35; refine (HM.out _).mono ?_; rintro e w' ⟨rfl, rfl⟩) | (go_at_call 19; refine (afail_any _ _ _ _).mono ?_; rintro e w' ⟨rfl, rfl⟩))
    go_ret
    exact OpDone.text rfl (by simp) (grown_refl w _)
  · rw [if_neg (by decide)]
    rcases hp : wparse s with j | v
    · have HN := Lib.hid (number_er s hu j hp)
      clear hp hu
      go_enter Tryd.func37, Tryd.ntmps37
      go_wp2_with (first | (go_at_call 56; refine (HR.out _).mono ?_; rintro e w' ⟨rfl, rfl⟩) | (go_at_call 35; refine (HM.out _).mono ?_; rintro e w' ⟨rfl, rfl⟩) | (go_at_call 57; refine (HN.out _ _).mono ?_; rintro e w' ⟨rfl, rfl⟩))
      go_ret
      exact OpDone.num rfl (by simp) (by repeat (first | exact grown_refl _ _ | refine grown_set ?_ _ _ | refine grown_alloc ?_ _))
    · have HN := Lib.hid (number_ok s hu v hp)
      clear hp hu
      go_enter Tryd.func37, Tryd.ntmps37
      go_wp2_with (first | (go_at_call 56; refine (HR.out _).mono ?_; rintro e w' ⟨rfl, rfl⟩) | (go_at_call 35; refine (HM.out _).mono ?_; rintro e w' ⟨rfl, rfl⟩) | (go_at_call 57; refine (HN.out _ _).mono ?_; rintro e w' ⟨rfl, h0, hv1, rfl⟩))
      go_ret
      exact OpDone.good _ rfl (HX.out.set_v v) (grown_set (grown_refl w _) _ _)

theorem operand_any (s : ByteArray) (hs : s.size ≤ 65536) (kind line : Int) (hk1 : 1 ≤ kind) (hk2 : kind ≤ 9) (B p bx : Nat) (st : RdSt) (X : Ins) (w : World)
    (hx : InsAt w bx X) (hrd : RdAt w B p bx st) (hB : B ≤ bx) (hlen : st.wants.length ≤ 1048576) :
    Calls Tryd.prog 37 #[.pointer (some ⟨p, 0, none⟩), .pointer (some ⟨bx, 0, none⟩), .int .i64 kind, .string s, .int .i64 line] w
      (OpndDone (opndV st X kind s line) B p bx line w) := by
  by_cases h8 : 8 ≤ kind
  · have h9 : kind = 8 ∨ kind = 9 := by omega
    by_cases hn : nameV s = true
    · have e : opndV st X kind s line = .ok ({ st with wants := st.wants ++ [((st.code.length : Int), line, s)] }, X) := by
        unfold opndV; rw [if_pos ⟨h8, hn⟩]
      rw [e]
      exact opnd_want s hs kind line h9 hn B p bx st X w hx hrd hB hlen
    · have hn' : nameV s = false := by simpa using hn
      refine (opnd_else s hs kind line h9 hn' p bx X w hx).mono fun e w' h => OpndDone.of h ?_ hrd hx hB
      unfold opndV
      rw [if_neg (fun h => hn h.2)]
      by_cases h : kind = 8
      · rw [if_pos h, if_pos h]; rfl
      · rw [if_neg h, if_neg h]
        have e : opndX X kind s = numIn X (wparse s) := by
          unfold opndX
          rw [if_neg (by omega), if_neg (by omega), if_neg (by omega), if_neg (by omega), if_neg (by omega)]
        rw [e]
  · have e : opndV st X kind s line = withSt st (opndX X kind s) := by
      unfold opndV
      rw [if_neg (fun h => h8 h.1), if_neg (by omega)]
    by_cases h3 : kind ≤ 3
    · exact (opnd_reg s hs kind line (by omega) p bx X w hx).mono fun _ w' h => OpndDone.of h e hrd hx hB
    · exact (opnd_num s hs kind line (by omega) p bx X w hx).mono fun _ w' h => OpndDone.of h e hrd hx hB
end Go.Proofs.YtnoejikcdigceaaDoor
