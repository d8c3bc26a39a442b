/- distaffref01.Print, distaffref05.reg, names, operands: contracts. -/
import Derived.Test.YtnoejikcdigceaaDoorRefOf
import Derived.Test.YtnoejikcdigceaaDoorGPrint
import Derived.Test.YtnoejikcdigceaaDoorWordsP
import Derived.Laws.Concat
set_option linter.unusedVariables false
set_option linter.unusedSimpArgs false
namespace Go.Proofs.YtnoejikcdigceaaDoor
open Go.RowKit
def RetS (s : ByteArray) (w : World) (e : Ending) (w' : World) : Prop := e = .returned (.string s) ∧ w = w'
theorem RetS.mk {s t : ByteArray} {w : World} (h : s = t) : RetS s w (.returned (.string t)) w := ⟨by rw [h], rfl⟩
def digs : ByteArray := ⟨#[48, 49, 50, 51, 52, 53, 54, 55, 56, 57]⟩
theorem digs_at' : ∀ d : Fin 10, digs.extract d.val (d.val + 1) = ⟨#[UInt8.ofNat (48 + d.val)]⟩ := by decide +kernel
theorem digs_at (d : Nat) (h : d < 10) : digs.extract d (d + 1) = ⟨#[UInt8.ofNat (48 + d)]⟩ := digs_at' ⟨d, h⟩
set_option maxRecDepth 100000 in
set_option maxHeartbeats 4000000 in
theorem rprint_any (n : Nat) (hn : n ≤ 18446744073709551615) (w : World) : Calls Tryd.prog 31 #[.int .u64 n] w (RetS (decB n) w) := by
  go_enter Tryd.func31, Tryd.ntmps31
  go_wp2_with fail
  go_loop [0, 3] (fun v s => ∃ (k m : Nat) (acc : List UInt8), v = .int .u64 m ∧ s = .string (ofL acc) ∧ 1 ≤ k ∧ k ≤ 20 ∧ Hid (m < 10 ^ k) ∧ m ≤ n ∧ acc.length + k ≤ 20 ∧ Hid (decGo k m acc = decL n)) (fun v _ => (intOf v).toNat)
  case atStart =>
    refine ⟨20, n, [], rfl, rfl, by omega, by omega, ?_, Nat.le_refl _, by simp, rfl⟩
    show n < 10 ^ 20
    have : (10 : Nat) ^ 20 = 100000000000000000000 := by decide
    omega
  case round =>
    obtain ⟨k, m, acc, rfl, rfl, hk1, hk2, HM, hmn, hacc, HG⟩ := hrel
    have hmx : (m : Int) ≤ 18446744073709551615 := by omega
    have hd0 : (0 : Int) ≤ (m : Int) % 10 := by omega
    have hd1 : (m : Int) % 10 ≤ 9 := by omega
    have hd2 : ((m : Int) % 10).toNat = m % 10 := by omega
    have hsz : (ofL acc).size ≤ 20 := by rw [ofL_size]; omega
    have hD : Hid (digs.extract (m % 10) (m % 10 + 1) ++ ofL acc = ofL (UInt8.ofNat (48 + m % 10) :: acc)) := by
      show _ = _
      rw [digs_at _ (by omega)]
      apply ByteArray.ext; apply Array.ext'; simp [ofL]
    have HK : Hid (k = (k - 1) + 1) := by show _ = _; omega
    by_cases hz : m / 10 = 0
    · have hz1 : (((m : Int) / 10) == 0) = true := by rw [beq_iff_eq]; omega
      have HF : Hid (decB n = ofL (UInt8.ofNat (48 + m % 10) :: acc)) := by
        show _ = _
        unfold decB
        rw [← HG.out, HK.out, decGo, if_pos hz]; rfl
      clear hz
      go_wp2
      go_ret
      exact RetS.mk (HF.out.trans hD.out.symm)
    · have hz1 : (((m : Int) / 10) == 0) = false := by rw [beq_eq_false_iff_ne]; omega
      have HF : Hid (decGo (k - 1) (m / 10) (UInt8.ofNat (48 + m % 10) :: acc) = decL n) := by
        show _ = _
        rw [← HG.out, HK.out, decGo, if_neg hz, Nat.add_sub_cancel]
      have HM2 : Hid (m / 10 < 10 ^ (k - 1)) := by
        show _ < _
        have h := HM.out
        rw [HK.out, Nat.pow_succ] at h
        omega
      have hk3 : 2 ≤ k := by
        have h := HM.out
        by_cases h1 : k = 1
        · subst h1; simp at h; omega
        · omega
      have hm10 : 10 ≤ m := by omega
      clear hz HK
      go_wp2
      go_round
      case rel => exact ⟨k - 1, m / 10, _, by go_num, congrArg Value.string hD.out, by omega, by omega, HM2.out, by omega, by simp; omega, HF.out⟩
      case measure => simp [intOf]; omega
set_option maxHeartbeats 4000000 in
theorem rreg5_any (v : Int) (h0 : 0 ≤ v) (h1 : v ≤ 31) (w : World) : Calls Tryd.prog 51 #[.int .i64 v] w (RetS (regS v) w) := by
  obtain ⟨n, rfl⟩ := Int.eq_ofNat_of_zero_le h0
  have hds := decB_size n
  go_enter Tryd.func51, Tryd.ntmps51
  go_wp2_with fail
  refine (rprint_any n (by omega) w).mono ?_
  rintro e w' ⟨rfl, rfl⟩
  go_wp2
  go_ret
  exact RetS.mk rfl
def refNames : List ByteArray := [⟨#[115, 101, 116]⟩, ⟨#[109, 111, 118]⟩, ⟨#[97, 100, 100]⟩, ⟨#[115, 117, 98]⟩, ⟨#[97, 110, 100]⟩, ⟨#[111, 114]⟩, ⟨#[120, 111, 114]⟩, ⟨#[115, 104, 108]⟩, ⟨#[115, 104, 114]⟩, ⟨#[101, 113]⟩, ⟨#[108, 116]⟩, ⟨#[106, 109, 112]⟩, ⟨#[106, 122]⟩, ⟨#[106, 110, 122]⟩, ⟨#[106, 115, 114]⟩, ⟨#[114, 101, 116]⟩, ⟨#[108, 100]⟩, ⟨#[115, 116]⟩, ⟨#[115, 119, 112]⟩, ⟨#[102, 97, 100]⟩, ⟨#[99, 97, 115]⟩, ⟨#[99, 97, 108, 108]⟩, ⟨#[104, 115, 104]⟩, ⟨#[113, 112, 116]⟩, ⟨#[113, 116, 107]⟩, ⟨#[113, 109, 118]⟩, ⟨#[113, 104, 115]⟩, ⟨#[115, 108, 112]⟩, ⟨#[104, 110, 100]⟩, ⟨#[112, 105, 107]⟩, ⟨#[108, 97, 121]⟩, ⟨#[116, 97, 107]⟩, ⟨#[105, 110, 106]⟩, ⟨#[105, 106, 116]⟩, ⟨#[114, 117, 110]⟩, ⟨#[112, 114, 107]⟩, ⟨#[115, 108, 102]⟩, ⟨#[119, 114, 107]⟩, ⟨#[119, 107, 100]⟩, ⟨#[119, 107, 110]⟩, ⟨#[110, 111, 119]⟩, ⟨#[100, 114, 119]⟩, ⟨#[103, 101, 116]⟩, ⟨#[102, 114, 101]⟩, ⟨#[111, 98, 106]⟩, ⟨#[100, 101, 108]⟩, ⟨#[99, 107, 112]⟩, ⟨#[116, 110, 119]⟩, ⟨#[116, 115, 116]⟩, ⟨#[116, 104, 109]⟩, ⟨#[116, 106, 110]⟩, ⟨#[116, 100, 116]⟩, ⟨#[116, 101, 120]⟩, ⟨#[116, 114, 112]⟩, ⟨#[101, 110, 100]⟩, ⟨#[121, 108, 100]⟩, ⟨#[99, 98, 107]⟩, ⟨#[102, 105, 110]⟩]
theorem refNames_at' : ∀ i : Fin 58, refNames[i.val]? = some (nameOf ((i.val : Int) + 1)) := by decide +kernel
set_option maxRecDepth 100000 in
set_option maxHeartbeats 4000000 in
theorem rnames_any (w : World) : Calls Tryd.prog 49 #[] w fun e w' => e = .returned (.slice (some ⟨w.heap.size, 0, none⟩) 58 58) ∧ (∀ i : Nat, i < 58 → w'.cell? ⟨w.heap.size, i, none⟩ = some (.string (nameOf ((i : Int) + 1)))) ∧ Below w.heap.size w w' := by
  go_enter Tryd.func49, Tryd.ntmps49
  go_wp2
  go_ret
  refine ⟨rfl, fun i hi => ?_, (Below.refl _ _).alloc (Nat.le_refl _) _⟩
  have h : (refNames.map Value.string).toArray[i]? = some (.string (nameOf ((i : Int) + 1))) := by
    rw [List.getElem?_toArray, List.getElem?_map, refNames_at' ⟨i, hi⟩]; rfl
  exact (rowCell (c := (refNames.map Value.string).toArray) (heap_alloc_at (w := w))).trans h
/-- The reference's numbers of the kinds. -/
def refKd (k : Int) : Int := if k = 1 then 0 else if k = 2 then 1 else if k = 3 then 2 else if k = 5 then 3 else if k = 4 then 4 else if k = 6 then 5 else if k = 8 then 6 else if k = 7 then 7 else 8
def refKs (op : Int) : List Int := (List.range (cntV (opndsV op))).map fun j => refKd (kindAt (opndsV op) j)
/-- In the reference's own shape. -/
def refOs (op : Int) : List Int :=
  if op = 1 then [0, 8] else if op = 12 ∨ op = 15 then [6] else if op = 13 ∨ op = 14 then [0, 6] else if op = 22 then [7] else if op = 43 then [0, 3] else if op = 45 then [0, 1, 7]
  else (if (ofV op).1 then [0] else []) ++ (if cellOp op then [5] else if (ofV op).2.1 then [1] else []) ++ (if (ofV op).2.2.2.2.2.1 then [4] else if (ofV op).2.2.1 then [2] else [])
theorem refOs_all : ∀ o : Fin 58, refOs ((o.val : Int) + 1) = refKs ((o.val : Int) + 1) := by decide +kernel
theorem refOs_eq (op : Int) (h : 1 ≤ op ∧ op ≤ 58) : refOs op = refKs op := by
  have := refOs_all ⟨(op - 1).toNat, by omega⟩
  have e : (((op - 1).toNat : Nat) : Int) + 1 = op := by omega
  simp only [e] at this
  exact this
def RetK (l : List Int) (w : World) (e : Ending) (w' : World) : Prop := ∃ v, e = .returned v ∧ w'.ownsRow w.heap.size 3 1 v l.length (l.map (Value.int .i64)) ∧ Below w.heap.size w w'
theorem RetK.lit {l : List Int} {n : Nat} {w : World} (hn : n = l.length) (hne : l.length ≤ 10) : RetK l w (.returned (.slice (some ⟨w.heap.size, 0, none⟩) n n)) (w.alloc (.cells (l.map (Value.int .i64)).toArray 3)) := by
  subst hn
  refine ⟨_, rfl, ⟨by simp, Or.inr ⟨w.heap.size, l.length, _, rfl, Nat.le_refl _, heap_alloc_at, Nat.le_refl _, ?_, by simp, ?_⟩⟩, (Below.refl _ _).alloc (Nat.le_refl _) _⟩
  · unfold maxLen; omega
  · rw [List.take_of_length_le (by simp)]
theorem owns_lower {w : World} {B B' : Nat} {e : TypeId} {size n : Nat} {v : Value} {xs : List Value} (h : w.ownsRow B e size v n xs) (hB : B' ≤ B) : w.ownsRow B' e size v n xs :=
  ⟨h.1, h.2.elim Or.inl fun ⟨g, cap, cur, a, b, c⟩ => Or.inr ⟨g, cap, cur, a, Nat.le_trans hB b, c⟩⟩
def i64s (l : List Int) : List Value := l.map (Value.int .i64)
/-- A row of numbers of one's own. -/
structure BufI (B : Nat) (w0 w : World) (v : Value) (acc : List Int) : Prop where
  own : w.ownsRow B 3 1 v acc.length (i64s acc)
  below : Below B w0 w
theorem BufI.keep {B : Nat} {w0 w w' : World} {v : Value} {acc : List Int} (h : BufI B w0 w v acc) (hb : Below w.heap.size w w') (hB : B ≤ w.heap.size) : BufI B w0 w' v acc :=
  ⟨h.own.kept (row := none) ⟨hb.os, hb.tape, hb.output, hb.size, fun k hk _ => hb.block k hk⟩ (by cases v.ownBlock <;> simp), h.below.trans (hb.mono hB)⟩
theorem wp_appI {ops : Array Oper} {rest : List Oper} {o : Oper} {a : Act} {Q : Exit → Act → World → Prop} {B : Nat} {w0 w : World} {v : Value} {acc : List Int} (hgd : o.guard = none) (sl x : Operand)
    (ho : o.op = .call { callee := .builtin .append, args := #[sl, x], argTypes := #[57, 57] }) (hs : a.eval sl = v) (hb : BufI B w0 w v acc) (c : Int) (g : Nat) (hx : a.eval x = .slice (some ⟨g, 0, none⟩) 1 1) (hc : w.cell? ⟨g, 0, none⟩ = some (.int .i64 c)) (hlen : acc.length + 1 ≤ 1000000) (hB : B ≤ w.heap.size)
    (h : ∀ v' w', BufI B w0 w' v' (acc ++ [c]) → w.heap.size ≤ w'.heap.size → wpList Tryd.prog ops Q rest (a.put o.dst v') w') : wpList Tryd.prog ops Q (o :: rest) a w := by
  obtain ⟨i5, hi5, hz5, hs5, hb5⟩ := info_parts info3
  refine wpList_append_own w hgd sl x 57 ho B 3 i5 (.int .i64 0) 1 8 Tryd.underlying57 hi5 hz5 hs5 hb5 rfl (by decide) v acc.length (i64s acc) hs hb.own ⟨g, 0, none⟩ 1 1 (i64s [c]) hx rfl ?_ ?_ (by unfold maxLen; omega) (by omega) hB ?_
  · intro j u hj
    match j, hj with
    | 0, hj =>
      have : Value.int .i64 c = u := by simpa [i64s] using hj
      subst this
      simpa [Addr.add] using hc
  · intro u hu
    have : u = Value.int .i64 c := by simpa [i64s] using hu
    subst this; rfl
  intro v' w' hown hg _
  refine h v' w' ⟨?_, ?_⟩ hg.size
  · have e : i64s (acc ++ [c]) = i64s acc ++ i64s [c] := by unfold i64s; simp
    rw [e, List.length_append]; exact hown
  · exact ⟨hg.os.trans hb.below.os, hg.tape.trans hb.below.tape, hg.output.trans hb.below.output, Nat.le_trans hb.below.size hg.size, fun k hk => (hg.block k (by have := hb.below.size; omega) (fun e => by have := (hb.own.lt k e.symm).1; omega)).trans (hb.below.block k hk)⟩
set_option maxRecDepth 100000 in
set_option maxHeartbeats 8000000 in
theorem ropnds_any (op : Int) (w : World) : Calls Tryd.prog 50 #[.int .i64 op] w (RetK (refOs op) w) := by
  by_cases hsp : op = 1 ∨ op = 12 ∨ op = 15 ∨ op = 13 ∨ op = 14 ∨ op = 22 ∨ op = 43 ∨ op = 45
  · rcases hsp with rfl | rfl | rfl | rfl | rfl | rfl | rfl | rfl
    all_goals
      go_enter Tryd.func50, Tryd.ntmps50
      go_wp2
      go_ret
      exact RetK.lit (by decide) (by decide)
  · have hn : op ≠ 1 ∧ op ≠ 12 ∧ op ≠ 15 ∧ op ≠ 13 ∧ op ≠ 14 ∧ op ≠ 22 ∧ op ≠ 43 ∧ op ≠ 45 := by omega
    have HE : Hid (refOs op = (if (ofV op).1 then [0] else []) ++ (if cellOp op then [5] else if (ofV op).2.1 then [1] else []) ++ (if (ofV op).2.2.2.2.2.1 then [4] else if (ofV op).2.2.1 then [2] else [])) := by
      show _ = _
      unfold refOs
      rw [if_neg (by omega), if_neg (by omega), if_neg (by omega), if_neg (by omega), if_neg (by omega), if_neg (by omega)]
    have b1 : (op == 1) = false := by rw [beq_eq_false_iff_ne]; exact hn.1
    have b2 : (op == 12) = false := by rw [beq_eq_false_iff_ne]; exact hn.2.1
    have b3 : (op == 15) = false := by rw [beq_eq_false_iff_ne]; exact hn.2.2.1
    have b4 : (op == 13) = false := by rw [beq_eq_false_iff_ne]; exact hn.2.2.2.1
    have b5 : (op == 14) = false := by rw [beq_eq_false_iff_ne]; exact hn.2.2.2.2.1
    have b6 : (op == 22) = false := by rw [beq_eq_false_iff_ne]; exact hn.2.2.2.2.2.1
    have b7 : (op == 43) = false := by rw [beq_eq_false_iff_ne]; exact hn.2.2.2.2.2.2.1
    have b8 : (op == 45) = false := by rw [beq_eq_false_iff_ne]; exact hn.2.2.2.2.2.2.2
    have HO := Lib.hid (fun w => of_any op w)
    have HCO := Lib.hid (fun w => cellop_any op w)
    obtain ⟨r, hr⟩ : ∃ r, refOs op = r := ⟨_, rfl⟩
    obtain ⟨O, hO⟩ : ∃ O, ofV op = O := ⟨_, rfl⟩
    obtain ⟨cO, hcO⟩ : ∃ O, cellOp op = O := ⟨_, rfl⟩
    rw [hr, hO, hcO] at HE
    rw [hr]
    rw [hO] at HO
    rw [hcO] at HCO
    clear hO hr hcO hn hsp
    obtain ⟨oA, oB, oC, oV, nB, nC, oP, oI⟩ := O
    go_enter Tryd.func50, Tryd.ntmps50
    go_wp2_with fail
    refine (HO.out _).mono ?_
    rintro e w1 ⟨rfl, hb⟩
    have HB := Lib.hid hb
    unfold of8
    clear b1 b2 b3 b4 b5 b6 b7 b8 hb
    go_upto_region 18 with fail
    obtain ⟨C, hC⟩ : ∃ C, C = w1.heap.size := ⟨_, rfl⟩
    obtain ⟨W, hW⟩ : ∃ W, W = w1.alloc (.cells #[.bool oA, .bool oB, .bool oC, .bool oV, .bool nB, .bool nC, .bool oP, .bool oI] 47) := ⟨_, rfl⟩
    rw [← hW, ← hC]
    have HBW : Hid (Below w.heap.size w W) := by show Below _ w W; rw [hW]; exact HB.out.alloc HB.out.size _
    have hCW : W.heap[C]? = some (.cells #[.bool oA, .bool oB, .bool oC, .bool oV, .bool nB, .bool nC, .bool oP, .bool oI] 47 (0, 0)) := by
      rw [hW, hC]; exact heap_alloc_at
    have hWs : W.heap.size = C + 1 := by rw [hW, hC]; simp
    have hwC : w.heap.size ≤ C := by rw [hC]; exact HB.out.size
    have g0 : W.cell? ⟨C, 0, none⟩ = some (.bool oA) := rowCell hCW
    have HG1 : Hid (W.cell? ⟨C, 1, none⟩ = some (.bool oB)) := rowCell hCW
    have HG2 : Hid (W.cell? ⟨C, 2, none⟩ = some (.bool oC)) := rowCell hCW
    have HG5 : Hid (W.cell? ⟨C, 5, none⟩ = some (.bool nC)) := rowCell hCW
    have HBWs : C + 1 ≤ W.heap.size := by omega
    clear hCW hW hC HB HO hWs
    have HS : Hid (BufI (C + 1) W W (.slice none 0 0) []) := ⟨World.ownsRow_nil _ _ _ _, Below.refl _ _⟩
    obtain ⟨l1, hl1⟩ : ∃ l1 : List Int, l1 = if oA then [0] else [] := ⟨_, rfl⟩
    have HL1 := Lib.hid hl1
    go_upto_if 29 with fail
    go_cut [4] (fun s wz => Hid (BufI (C + 1) W wz s l1))
    case first =>
      cases oA
      · have HL : Hid (l1 = []) := hl1
        clear hl1
        have HN : Hid (BufI (C + 1) W W (.slice none 0 0) l1) := by show BufI _ _ _ _ _; rw [HL.out]; exact HS.out
        clear HL
        go_wp2
        go_meet
        first | exact HN | exact ⟨HN, rfl⟩
      · have HL : Hid (l1 = [] ++ [0]) := hl1
        have hc1 : C + 1 ≤ W.heap.size := HBWs
        have hl9 : ([] : List Int).length ≤ 10 := by decide
        clear hl1
        go_wp2_with (at_builtin; refine wp_appI rfl _ _ rfl rfl (HS.out.keep ((Below.refl _ _).alloc (Nat.le_refl _) _) hc1) 0 W.heap.size rfl ?_ (by omega) (by simp; omega) ?_)
        intro v' w' hbuf hsz
        have HN : Hid (BufI (C + 1) W w' v' l1) := by show BufI _ _ _ _ _; rw [HL.out]; exact hbuf
        clear hbuf HL
        go_wp2
        go_meet
        first | exact HN | exact ⟨HN, rfl⟩
    case rest =>
      clear hl1 g0
      have HB2 := Lib.hid hcut
      have hl9 : l1.length ≤ 1 := by rw [HL1.out]; cases oA <;> simp
      clear hcut
      obtain ⟨l2, hl2⟩ : ∃ l2 : List Int, l2 = l1 ++ (if cO then [5] else if oB then [1] else []) := ⟨_, rfl⟩
      have HL2 := Lib.hid hl2
      clear hl2
      go_wp2_with fail
      refine (HCO.out _).mono ?_
      rintro e w' ⟨rfl, rfl⟩
      go_upto_if 34 with fail
      go_cut [4] (fun s wz => Hid (BufI (C + 1) W wz s l2))
      case first =>
        have g1 : wc.cell? ⟨C, 1, none⟩ = some (.bool oB) := (below_cellP HB2.out.below (by omega)).trans HG1.out
        have hc1 : C + 1 ≤ wc.heap.size := by have := HB2.out.below.size; have := HBWs; omega
        cases cO
        · cases oB
          · have HL : Hid (l2 = l1) := by show _ = _; rw [HL2.out]; simp
            have HN := HB2.out
            rw [← HL.out] at HN
            clear HL
            go_wp2
            go_meet
            first | exact HN | exact ⟨HN, rfl⟩
          · have HL : Hid (l2 = l1 ++ [1]) := HL2.out
            go_wp2_with (at_builtin; refine wp_appI rfl _ _ rfl rfl (HB2.out.keep ((Below.refl _ _).alloc (Nat.le_refl _) _) hc1) 1 wc.heap.size rfl ?_ (by omega) (by simp; omega) ?_)
            intro v' w' hbuf hsz
            have HN : Hid (BufI (C + 1) W w' v' l2) := by show BufI _ _ _ _ _; rw [HL.out]; exact hbuf
            clear hbuf HL
            go_wp2
            go_meet
            first | exact HN | exact ⟨HN, rfl⟩
        · have HL : Hid (l2 = l1 ++ [5]) := HL2.out
          go_wp2_with (at_builtin; refine wp_appI rfl _ _ rfl rfl (HB2.out.keep ((Below.refl _ _).alloc (Nat.le_refl _) _) hc1) 5 wc.heap.size rfl ?_ (by omega) (by simp; omega) ?_)
          intro v' w' hbuf hsz
          have HN : Hid (BufI (C + 1) W w' v' l2) := by show BufI _ _ _ _ _; rw [HL.out]; exact hbuf
          clear hbuf HL
          go_wp2
          go_meet
          first | exact HN | exact ⟨HN, rfl⟩
      case rest =>
        have HB3 := Lib.hid hcut
        have hl8 : l2.length ≤ 2 := by rw [HL2.out]; simp; cases cO <;> cases oB <;> simp <;> omega
        clear hcut
        have HR : Hid (r = l2 ++ (if nC then [4] else if oC then [2] else [])) := by
          show _ = _
          rw [HE.out, HL2.out, HL1.out]
        have g5 : wc.cell? ⟨C, 5, none⟩ = some (.bool nC) := (below_cellP HB3.out.below (by omega)).trans HG5.out
        have g2 : wc.cell? ⟨C, 2, none⟩ = some (.bool oC) := (below_cellP HB3.out.below (by omega)).trans HG2.out
        have hc1 : C + 1 ≤ wc.heap.size := by have := HB3.out.below.size; have := HBWs; omega
        cases nC
        · cases oC
          · have HL : Hid (r = l2) := by show _ = _; rw [HR.out]; simp
            have HN := HB3.out
            rw [← HL.out] at HN
            clear HL
            go_wp2
            go_ret
            exact ⟨_, rfl, owns_lower HN.out.own (by omega), HBW.out.trans (HN.out.below.mono (by omega))⟩
          · have HL : Hid (r = l2 ++ [2]) := HR.out
            go_wp2_with (at_builtin; refine wp_appI rfl _ _ rfl rfl (HB3.out.keep ((Below.refl _ _).alloc (Nat.le_refl _) _) hc1) 2 wc.heap.size rfl ?_ (by omega) (by simp; omega) ?_)
            intro v' w' hbuf hsz
            have HN : Hid (BufI (C + 1) W w' v' r) := by show BufI _ _ _ _ _; rw [HL.out]; exact hbuf
            clear hbuf HL
            go_wp2
            go_ret
            exact ⟨_, rfl, owns_lower HN.out.own (by omega), HBW.out.trans (HN.out.below.mono (by omega))⟩
        · have HL : Hid (r = l2 ++ [4]) := HR.out
          go_wp2_with (at_builtin; refine wp_appI rfl _ _ rfl rfl (HB3.out.keep ((Below.refl _ _).alloc (Nat.le_refl _) _) hc1) 4 wc.heap.size rfl ?_ (by omega) (by simp; omega) ?_)
          intro v' w' hbuf hsz
          have HN : Hid (BufI (C + 1) W w' v' r) := by show BufI _ _ _ _ _; rw [HL.out]; exact hbuf
          clear hbuf HL
          go_wp2
          go_ret
          exact ⟨_, rfl, owns_lower HN.out.own (by omega), HBW.out.trans (HN.out.below.mono (by omega))⟩
end Go.Proofs.YtnoejikcdigceaaDoor
