/- asm.Print: what it writes; its buffer. asm.Print: contract. asm.Print: what badV < 0 says; the contract. -/
import Derived.Test.YtnoejikcdigceaaDoorPrintD
import Derived.Test.YtnoejikcdigceaaDoorPrintE
import Derived.Test.YtnoejikcdigceaaDoorNameM
import Derived.Test.YtnoejikcdigceaaDoorOpnds
import Derived.Test.YtnoejikcdigceaaDoorGLine
import Derived.Lib.AppendStr
import Derived.Deep.DeepCutAuto
set_option linter.unusedVariables false
set_option linter.unusedSimpArgs false
namespace Go.Proofs.YtnoejikcdigceaaDoor
open Go.RowKit
def isJ (op : Int) : Bool := decide (op = 12 ∨ op = 13 ∨ op = 14 ∨ op = 15)
/-- Whether one of these jumps to i. -/
def goalV (l : List Ins) (i : Nat) : Bool := l.any fun X => isJ X.op && decide (X.v = (i : Int))
def opsL (X : Ins) (K : Int × Int × Int) : Nat → List UInt8
  | 0 => []
  | j + 1 => opsL X K j ++ 32 :: (shownV X (kindAt K j)).data.toList
/-- An instruction's line. -/
def insL (X : Ins) : List UInt8 := (nameOf X.op).data.toList ++ opsL X (opndsV X.op) (cntV (opndsV X.op)) ++ (markedV X).data.toList ++ [10]
def labL (i : Nat) (g : Bool) : List UInt8 := if g then 112 :: (decL i ++ [58, 10]) else []
def linesTo (l : List Ins) (k : Nat) : List UInt8 := (List.range k).flatMap fun i => labL i (goalV l i) ++ insL (l.getD i zI)
theorem linesTo_succ (l : List Ins) (k : Nat) : linesTo l (k + 1) = linesTo l k ++ (labL k (goalV l k) ++ insL (l.getD k zI)) := by
  unfold linesTo; rw [List.range_succ, List.flatMap_append]; simp
/-- Blocks that are no rows of bytes stay. -/
def Keep5 (w w' : World) : Prop := ∀ (k : Nat) (c : Array Value) (t : TypeId) (f : Nat × Nat), t ≠ 5 → w.heap[k]? = some (.cells c t f) → w'.heap[k]? = some (.cells c t f)
theorem Keep5.refl (w : World) : Keep5 w w := fun _ _ _ _ _ h => h
theorem Keep5.trans {a b c : World} (h : Keep5 a b) (g : Keep5 b c) : Keep5 a c := fun k x t f ht hk => g k x t f ht (h k x t f ht hk)
theorem Keep5.below {w w' : World} (h : Below w.heap.size w w') : Keep5 w w' := by
  intro k c t f _ hk
  rw [h.block k (Array.getElem?_eq_some_iff.1 hk).1]; exact hk
/-- A row of bytes of one's own. -/
structure Buf (B : Nat) (w0 w : World) (v : Value) (acc : List UInt8) : Prop where
  own : w.ownsRow B 5 1 v acc.length (u8s acc)
  below : Below B w0 w
theorem Buf.keep {B : Nat} {w0 w w' : World} {v : Value} {acc : List UInt8} (h : Buf B w0 w v acc) (hb : Below w.heap.size w w') (hB : B ≤ w.heap.size) : Buf B w0 w' v acc :=
  ⟨h.own.kept (row := none) ⟨hb.os, hb.tape, hb.output, hb.size, fun k hk _ => hb.block k hk⟩ (by cases v.ownBlock <;> simp), h.below.trans (hb.mono hB)⟩
theorem Buf.app {B : Nat} {w0 w w' : World} {v v' : Value} {acc : List UInt8} {n : Nat} {l : List UInt8} {xs : List Value} (h : Buf B w0 w v acc) (hB : B ≤ w.heap.size) (hx : xs = u8s l) (hn : n = acc.length + l.length)
    (ho : w'.ownsRow B 5 1 v' n (u8s acc ++ xs)) (hg : w.grownBy w' v.ownBlock) : Buf B w0 w' v' (acc ++ l) ∧ Keep5 w w' := by
  refine ⟨⟨?_, ?_⟩, ?_⟩
  · subst hx; subst hn
    have e : u8s (acc ++ l) = u8s acc ++ u8s l := by unfold u8s; simp
    rw [e, List.length_append]; exact ho
  · exact ⟨hg.os.trans h.below.os, hg.tape.trans h.below.tape, hg.output.trans h.below.output, Nat.le_trans h.below.size hg.size, fun k hk => (hg.block k (by have := h.below.size; omega) (fun e => by have := (h.own.lt k e.symm).1; omega)).trans (h.below.block k hk)⟩
  · intro k c t f ht hk
    rw [hg.block k (Array.getElem?_eq_some_iff.1 hk).1 (fun e => row_type h.own hk ht e.symm)]; exact hk
theorem info5 : (Tryd.prog.info? 5).map (fun i => (i.zero, i.size, i.bytes)) = some (some (.int .u8 0), 1, 1) := by kernel_rfl
theorem strCells_u8 (s : ByteArray) : Lib.strCells s = u8s s.data.toList := rfl
theorem nmGo_size (op : Int) : ∀ (f i a : Nat) (n : Int), (nmGo op f i a n).size ≤ 227
  | 0, _, _, _ => by show (0 : Nat) ≤ 227; omega
  | f + 1, i, a, n => by
    unfold nmGo
    split
    · exact nmGo_size op f (i + 1) a n
    · split
      · have := namesB_size; simp; omega
      · exact nmGo_size op f (i + 1) (i + 1) (n + 1)
theorem nameOf_size (op : Int) : (nameOf op).size ≤ 227 := nmGo_size op _ _ _ _
theorem shownV_size (X : Ins) (kd : Int) : (shownV X kd).size ≤ 45 := by
  have h1 := decB_size X.v.toNat
  have h2 := regS_size X.a
  have h3 := regS_size X.b
  have h4 := regS_size X.c
  have k1 : ∀ x : UInt8, (ByteArray.mk #[x]).size = 1 := fun _ => rfl
  unfold shownV
  repeat' split
  all_goals (try simp only [ByteArray.size_append, k1]); omega
theorem markedV_size (X : Ins) : (markedV X).size ≤ 24 := by
  have h1 := decB_size X.m.toNat
  have k0 : (ByteArray.mk #[]).size = 0 := rfl
  have k2 : ∀ x y : UInt8, (ByteArray.mk #[x, y]).size = 2 := fun _ _ => rfl
  have h2 : (whenS X.wh).size ≤ 2 := by
    unfold whenS
    repeat' split
    all_goals first | (rw [k2]; omega) | (rw [k0]; omega)
  unfold markedV
  split
  · rw [k0]; omega
  · simp only [ByteArray.size_append, k2]; omega
/-- append(b, s...) at a buffer. -/
theorem wp_appS {ops : Array Oper} {rest : List Oper} {o : Oper} {a : Act} {Q : Exit → Act → World → Prop} {B : Nat} {w0 w : World} {v : Value} {acc : List UInt8} (hgd : o.guard = none) (sl x : Operand)
    (ho : o.op = .call { callee := .builtin .append, args := #[sl, x], argTypes := #[75, 9] }) (hs : a.eval sl = v) (hb : Buf B w0 w v acc) (s : ByteArray) (hx : a.eval x = .string s) (hlen : acc.length + s.size ≤ 1000000) (hB : B ≤ w.heap.size)
    (h : ∀ v' w', Buf B w0 w' v' (acc ++ s.data.toList) → Keep5 w w' → w.heap.size ≤ w'.heap.size → wpList Tryd.prog ops Q rest (a.put o.dst v') w') : wpList Tryd.prog ops Q (o :: rest) a w := by
  obtain ⟨i5, hi5, hz5, hs5, hb5⟩ := info_parts info5
  have hsz : s.data.toList.length = s.size := by simp
  refine Lib.wpList_append_own_string w hgd sl x 75 9 ho B 5 i5 Tryd.underlying75 Tryd.underlying9 hi5 hz5 hs5 hb5 v acc.length (u8s acc) hs hb.own s hx (by unfold maxLen; omega) (by omega) hB ?_
  intro v' w' hown hgrow _
  have := hb.app hB (l := s.data.toList) (strCells_u8 s) (by rw [hsz]) hown hgrow
  exact h v' w' this.1 this.2 hgrow.size
/-- append(b, c) of one byte, which lies in a block of its own. -/
theorem wp_appC {ops : Array Oper} {rest : List Oper} {o : Oper} {a : Act} {Q : Exit → Act → World → Prop} {B : Nat} {w0 w : World} {v : Value} {acc : List UInt8} (hgd : o.guard = none) (sl x : Operand)
    (ho : o.op = .call { callee := .builtin .append, args := #[sl, x], argTypes := #[75, 75] }) (hs : a.eval sl = v) (hb : Buf B w0 w v acc) (c : UInt8) (g : Nat) (hx : a.eval x = .slice (some ⟨g, 0, none⟩) 1 1) (hc : w.cell? ⟨g, 0, none⟩ = some (.int .u8 c.toNat)) (hlen : acc.length + 1 ≤ 1000000) (hB : B ≤ w.heap.size)
    (h : ∀ v' w', Buf B w0 w' v' (acc ++ [c]) → Keep5 w w' → w.heap.size ≤ w'.heap.size → wpList Tryd.prog ops Q rest (a.put o.dst v') w') : wpList Tryd.prog ops Q (o :: rest) a w := by
  obtain ⟨i5, hi5, hz5, hs5, hb5⟩ := info_parts info5
  refine wpList_append_own w hgd sl x 75 ho B 5 i5 (.int .u8 0) 1 1 Tryd.underlying75 hi5 hz5 hs5 hb5 rfl (by decide) v acc.length (u8s acc) hs hb.own ⟨g, 0, none⟩ 1 1 (u8s [c]) hx rfl ?_ ?_ (by unfold maxLen; omega) (by omega) hB ?_
  · intro j u hj
    match j, hj with
    | 0, hj =>
      have : Value.int .u8 c.toNat = u := by simpa [u8s] using hj
      subst this
      simpa [Addr.add] using hc
  · intro u hu
    have : u = Value.int .u8 c.toNat := by simpa [u8s] using hu
    subst this; rfl
  intro v' w' hown hgrow _
  have := hb.app hB (l := [c]) rfl rfl hown hgrow
  exact h v' w' this.1 this.2 hgrow.size
/-- The buffer as text. -/
theorem Buf.text {B : Nat} {w0 w : World} {v : Value} {acc : List UInt8} (h : Buf B w0 w v acc) : (convert 75 9 v).run Tryd.prog w = .ok (.string ⟨acc.toArray⟩) w := by
  rcases h.own.2 with ⟨hv, h0⟩ | ⟨g, cap, cur, hv, hb, hg, _⟩
  · have : acc = [] := by
      cases acc with
      | nil => rfl
      | cons x t => simp at h0
    subst this; subst hv
    exact run_convert_bytes_nil (P := Tryd.prog) w 75 5 Tryd.underlying75 Tryd.underlying5 0 0 9 Tryd.underlying9
  · subst hv
    refine conv_bytes w g 0 acc.length cap acc rfl ?_
    intro i x hx
    have := h.own.cells (g := g) rfl i (.int .u8 x.toNat) (by unfold u8s; rw [List.getElem?_map, hx]; rfl)
    simp only [Addr.add] at this
    rw [Nat.zero_add]
    split at this
    · rename_i h0; subst h0; exact this
    · simpa using this
/-- What asm.Print hands back: its text, or its error's place and kind. -/
def printV (l : List Ins) : Except (Int × Int) ByteArray :=
  if 2048 < l.length then .error (0, 3) else if 0 ≤ badV l then .error (badV l, 5) else .ok (ofLB (linesTo l l.length))
where ofLB (l : List UInt8) : ByteArray := ⟨l.toArray⟩
def Printed (r : Except (Int × Int) ByteArray) (w : World) (e : Ending) (w' : World) : Prop :=
  match r with
  | .ok s => e = .returned (.tuple #[.string s, .nilIface]) ∧ Below w.heap.size w w'
  | .error (n, k) => ∃ b, e = .returned (.tuple #[.string ⟨#[]⟩, .iface 68 (.pointer (some ⟨b, 0, none⟩))]) ∧ w.heap.size ≤ b ∧ w'.heap[b]? = some (.cells #[.string ⟨#[97, 115, 109]⟩, .int .i64 n, .iface 41 (.int .i64 k)] 72 (0, 0)) ∧ Below w.heap.size w w'
end Go.Proofs.YtnoejikcdigceaaDoor

set_option linter.unusedVariables false
set_option linter.unusedSimpArgs false
namespace Go.Proofs.YtnoejikcdigceaaDoor
open Go.RowKit
/-- What a code that may be printed gives of an instruction. -/
structure Good (X : Ins) (n : Nat) : Prop where
  jump : isJ X.op = true → 0 ≤ X.v ∧ X.v < (n : Int)
  opnd : ∀ j, j < cntV (opndsV X.op) → ShowOk X (kindAt (opndsV X.op) j)
  m : 0 ≤ X.m ∧ X.m ≤ 99
  wh : 0 ≤ X.wh ∧ X.wh ≤ 2
def gTo (l : List Ins) (N k : Nat) : List Bool := (List.range N).map fun i => goalV (l.take k) i
theorem gTo_0 (l : List Ins) (N : Nat) : gTo l N 0 = List.replicate N false := by
  unfold gTo goalV
  apply List.ext_getElem?
  intro i
  by_cases hi : i < N
  · simp [hi]
  · simp [hi]
theorem gTo_yes (l : List Ins) (N k : Nat) (X : Ins) (hX : l[k]? = some X) (hj : isJ X.op = true) (v : Nat) (hv : X.v = (v : Int)) : (gTo l N k).set v true = gTo l N (k + 1) := by
  have e : l.take (k + 1) = l.take k ++ [X] := by rw [List.take_add_one, hX]; rfl
  unfold gTo
  apply List.ext_getElem?
  intro i
  rw [List.getElem?_set]
  by_cases hi : i < N
  · simp only [List.length_map, List.length_range, List.getElem?_map, List.getElem?_range, hi]
    rw [e]
    unfold goalV
    simp only [List.any_append, Option.map_some]
    by_cases hvi : v = i
    · subst hvi; simp [hj, hv, hi]
    · have : ¬ X.v = (i : Int) := by rw [hv]; omega
      simp [hvi, this]
  · simp [hi]
    intro h; omega
theorem gTo_no (l : List Ins) (N k : Nat) (X : Ins) (hX : l[k]? = some X) (hj : isJ X.op = false) : gTo l N k = gTo l N (k + 1) := by
  have e : l.take (k + 1) = l.take k ++ [X] := by rw [List.take_add_one, hX]; rfl
  unfold gTo goalV
  rw [e]
  simp [hj]
def RowG (w : World) (g : Nat) (l : List Bool) : Prop := w.heap[g]? = some (.cells (bRow l) 4 (0, 0))
theorem RowG.cell {w : World} {g : Nat} {l : List Bool} (h : RowG w g l) {i : Nat} {b : Bool} (hi : l[i]? = some b) : w.cell? ⟨g, i, none⟩ = some (.bool b) := by
  rw [rowCell h]; unfold bRow; simp [hi]
theorem RowG.set {w : World} {g : Nat} {l : List Bool} (h : RowG w g l) (i : Nat) (b : Bool) : RowG (w.setCell ⟨g, i, none⟩ (.bool b)) g (l.set i b) := by
  unfold RowG at h ⊢
  rw [setCell_row h]
  unfold bRow
  simp [List.map_set]
theorem RowG.below {w w' : World} {g : Nat} {l : List Bool} (h : RowG w g l) (hb : Below w.heap.size w w') : RowG w' g l := by
  unfold RowG at h ⊢
  rw [hb.block g (Array.getElem?_eq_some_iff.1 h).1]; exact h
theorem printMk {s t : ByteArray} {w w' : World} (h : t = s) (hb : Below w.heap.size w w') : Ending.returned (.tuple #[.string t, .nilIface]) = .returned (.tuple #[.string s, .nilIface]) ∧ Below w.heap.size w w' := ⟨by rw [h], hb⟩
set_option maxRecDepth 100000 in
set_option maxHeartbeats 8000000 in
theorem print_good (l : List Ins) (a : Option Addr) (c : Nat) (hl : l.length ≤ 2048) (hc : l.length ≤ c) (w : World) (hr : l ≠ [] → ∃ g, a = some ⟨g, 0, none⟩ ∧ RowI w g l)
    (hge : w.cell? ⟨0, 0, none⟩ = some (.iface 119 (.agg #[.pointer (some ⟨4, 28, none⟩)]))) (hgood : ∀ X ∈ l, Good X l.length) (hbad : badV l < 0) :
    Calls Tryd.prog 14 #[.slice a l.length c] w (fun e w' => e = .returned (.tuple #[.string ⟨(linesTo l l.length).toArray⟩, .nilIface]) ∧ Below w.heap.size w w') := by
  have HBA := Lib.hid (bad_any l a c hl hc w hr hge)
  have HR := Lib.hid hr
  have HGD := Lib.hid hgood
  have HGE := Lib.hid hge
  clear hr hgood hge
  obtain ⟨N, hN⟩ : ∃ N, N = l.length := ⟨_, rfl⟩
  rw [← hN] at hl hc HBA ⊢
  have HN := Lib.hid hN
  have hmk := make74 N hl
  obtain ⟨bd, hbd⟩ : ∃ bd, bd = badV l := ⟨_, rfl⟩
  rw [← hbd] at hbad HBA
  clear hN hbd
  go_enter Tryd.func14, Tryd.ntmps14
  go_wp2_with fail
  refine HBA.out.mono ?_
  rintro e w1 ⟨rfl, hb1⟩
  have HB1 := Lib.hid hb1
  have hz1 := hb1.size
  clear hb1 HBA
  go_wp2_with fail
  obtain ⟨gb, hgb⟩ : ∃ gb, gb = w1.heap.size := ⟨_, rfl⟩
  have hgB : w.heap.size ≤ gb := by omega
  have hw0 : RowG (w1.alloc (.cells (bRow (List.replicate N false)) 4)) gb (gTo l N 0) := by
    rw [gTo_0, hgb]; exact heap_alloc_at
  have HW0 := Lib.hid hw0
  have HB2 : Hid (Below w.heap.size w (w1.alloc (.cells (bRow (List.replicate N false)) 4))) := HB1.out.alloc hz1 _
  rw [← hgb]
  clear hw0 hgb hmk
  go_wp2_with fail
  go_loopw [30] (fun s wz => ∃ k : Nat, s = .int .i64 k ∧ k ≤ N ∧ RowG wz gb (gTo l N k) ∧ Below w.heap.size w wz) (fun s _ => N - (intOf s).toNat)
  case atStart => exact ⟨0, rfl, Nat.zero_le _, HW0.out, HB2.out⟩
  case round =>
    obtain ⟨k, rfl, hk, hg, hb⟩ := hrel
    have HB := Lib.hid hb
    have HG := Lib.hid hg
    have hbs := hb.size
    have hgbl : gb < wr.heap.size := (Array.getElem?_eq_some_iff.1 hg).1
    by_cases hkn : k < N
    · have hkl : k < l.length := by rw [← HN.out]; exact hkn
      obtain ⟨g, rfl, hrow⟩ := HR.out (by intro e; subst e; simp at hkl)
      have hX : l[k]? = some l[k] := List.getElem?_eq_getElem hkl
      obtain ⟨X, hXX⟩ : ∃ X, X = l[k] := ⟨_, rfl⟩
      rw [← hXX] at hX
      have HX := Lib.hid hX
      have HGX := Lib.hid (HGD.out X (List.mem_of_getElem? hX))
      obtain ⟨f0, f1, f2, f3, f4, f5, f6⟩ := flatIns_cells l k X hX
      have hrw := hrow.below hb
      have a0 := hrw.cell _ _ f0
      have a1 := hrw.cell _ _ f1
      have a2 := hrw.cell _ _ f2
      have a3 := hrw.cell _ _ f3
      have a4 := hrw.cell _ _ f4
      have a5 := hrw.cell _ _ f5
      have a6 := hrw.cell _ _ f6
      have hk3 : (k : Int) < (N : Int) := by omega
      have hglt := hrw.lt
      clear hXX hX f0 f1 f2 f3 f4 f5 f6 hb hg hrw hrow
      by_cases hj : isJ X.op = true
      · obtain ⟨hv0, hv1⟩ := HGX.out.jump hj
        rw [← HN.out] at hv1
        obtain ⟨vn, hvn⟩ := Int.eq_ofNat_of_zero_le hv0
        have HY := Lib.hid (gTo_yes l N k X HX.out hj vn hvn)
        have htn : X.v.toNat = vn := by omega
        have HTN := Lib.hid htn
        have hgc : ∃ b, wr.cell? ⟨gb, X.v.toNat, none⟩ = some (.bool b) := by
          refine ⟨_, HG.out.cell (b := goalV (l.take k) X.v.toNat) ?_⟩
          unfold gTo; rw [List.getElem?_map, List.getElem?_range (by omega)]; rfl
        obtain ⟨bo, hbo⟩ := hgc
        have hfo : wr.frozen? ⟨gb, X.v.toNat, none⟩ = false := rowFree HG.out
        clear hvn htn
        have hops : (X.op == 12) = true ∨ ((X.op == 12) = false ∧ (X.op == 13) = true) ∨ ((X.op == 12) = false ∧ (X.op == 13) = false ∧ (X.op == 14) = true) ∨ ((X.op == 12) = false ∧ (X.op == 13) = false ∧ (X.op == 14) = false ∧ (X.op == 15) = true) := by
          unfold isJ at hj
          have := of_decide_eq_true hj
          simp only [beq_iff_eq, beq_eq_false_iff_ne]
          omega
        clear hj
        rcases hops with o1 | ⟨o1, o2⟩ | ⟨o1, o2, o3⟩ | ⟨o1, o2, o3, o4⟩
        all_goals
          go_wp2
          go_roundw
          case rel => exact ⟨k + 1, by go_num, by omega, by rw [← HY.out, ← HTN.out]; exact RowG.below (RowG.set HG.out _ _) ((Below.refl _ _).alloc (Nat.le_refl _) _), (HB.out.setCell (by simpa using hgB) _).alloc (by simp; omega) _⟩
          case measure => simp [intOf]; omega
      · have hj2 : isJ X.op = false := by simpa using hj
        have HY := Lib.hid (gTo_no l N k X HX.out hj2)
        have hops : (X.op == 12) = false ∧ (X.op == 13) = false ∧ (X.op == 14) = false ∧ (X.op == 15) = false := by
          unfold isJ at hj2
          have := of_decide_eq_false hj2
          simp only [beq_eq_false_iff_ne]
          omega
        clear hj hj2
        obtain ⟨o1, o2, o3, o4⟩ := hops
        go_wp2
        go_roundw
        case rel => exact ⟨k + 1, by go_num, by omega, by rw [← HY.out]; exact RowG.below HG.out ((Below.refl _ _).alloc (Nat.le_refl _) _), HB.out.alloc hbs _⟩
        case measure => simp [intOf]; omega
    · obtain rfl : k = N := by omega
      have hk3 : ¬ (k : Int) < (k : Int) := by omega
      clear hb hg HW0 HB2 HB1
      go_wp2_with fail
      have hB0 : Buf w.heap.size w wr (.slice none 0 0) (linesTo l 0) := ⟨World.ownsRow_nil _ _ _ _, HB.out⟩
      have HB0 := Lib.hid hB0
      clear hB0
      obtain ⟨wo, rfl⟩ : ∃ wo : World, wo = wr := ⟨_, rfl⟩
      go_loopw [8, 48] (fun v s wz => ∃ (j : Nat) (acc : List UInt8), s = .int .i64 j ∧ j ≤ k ∧ Hid (linesTo l j = acc) ∧ acc.length ≤ 450 * j ∧ Buf w.heap.size w wz v acc ∧ RowG wz gb (gTo l k k)) (fun _ s _ => k - (intOf s).toNat)
      case atStart => exact ⟨0, _, rfl, Nat.zero_le _, rfl, Nat.zero_le _, HB0.out, HG.out⟩
      case round =>
        obtain ⟨j, acc, rfl, hj, HAC, hal, hbuf, hrg⟩ := hrel
        have HBF := Lib.hid hbuf
        have HRG := Lib.hid hrg
        have hws := hbuf.below.size
        have hgl := (Array.getElem?_eq_some_iff.1 hrg).1
        by_cases hjk : j < k
        · have hjl : j < l.length := by rw [← HN.out]; exact hjk
          obtain ⟨g, rfl, hrow⟩ := HR.out (by intro e; subst e; simp at hjl)
          have hX : l[j]? = some l[j] := List.getElem?_eq_getElem hjl
          obtain ⟨X, hXX⟩ : ∃ X, X = l[j] := ⟨_, rfl⟩
          rw [← hXX] at hX
          have HX := Lib.hid hX
          have HGX := Lib.hid (HGD.out X (List.mem_of_getElem? hX))
          obtain ⟨f0, f1, f2, f3, f4, f5, f6⟩ := flatIns_cells l j X hX
          have hrw := hrow.below hbuf.below
          have a0 := hrw.cell _ _ f0
          have a1 := hrw.cell _ _ f1
          have a2 := hrw.cell _ _ f2
          have a3 := hrw.cell _ _ f3
          have a4 := hrw.cell _ _ f4
          have a5 := hrw.cell _ _ f5
          have a6 := hrw.cell _ _ f6
          have hk3 : (j : Int) < (k : Int) := by omega
          have hglt := hrw.lt
          obtain ⟨gv, hgv⟩ : ∃ gv, gv = goalV l j := ⟨_, rfl⟩
          have gc : wr.cell? ⟨gb, j, none⟩ = some (.bool gv) := hrg.cell (by
            unfold gTo; rw [List.getElem?_map, List.getElem?_range hjk]
            show some (goalV (l.take k) j) = some gv
            rw [hgv, HN.out, List.take_length])
          have HGV := Lib.hid hgv
          clear hXX hX f0 f1 f2 f3 f4 f5 f6 hrw hrow hbuf hrg hgv
          go_upto_if 56 with fail
          obtain ⟨xb, hxb⟩ : ∃ xb, xb = wr.heap.size := ⟨_, rfl⟩
          obtain ⟨W, hW⟩ : ∃ W, wr.alloc (.cells #[.int .i64 X.op, .int .i64 X.a, .int .i64 X.b, .int .i64 X.c, .int .u64 X.v, .int .i64 X.m, .int .i64 X.wh] 37) = W := ⟨_, rfl⟩
          have hxr : W.heap[xb]? = some (.cells (insCells X) 37 (0, 0)) := by rw [← hW, hxb]; exact heap_alloc_at
          have hWb : Below wr.heap.size wr W := by rw [← hW]; exact (Below.refl _ _).alloc (Nat.le_refl _) _
          have HXR := Lib.hid hxr
          have hWs : wr.heap.size ≤ W.heap.size := hWb.size
          have HBW := Lib.hid (HBF.out.keep hWb hws)
          have HRW := Lib.hid (HRG.out.below hWb)
          rw [hW, ← hxb]
          have HXB := Lib.hid hxb
          clear hW hxr hWb a0 a1 a2 a3 a4 a5 a6 gc hxb
          go_cut [8] (fun v wz => Buf w.heap.size w wz v (acc ++ labL j gv) ∧ Keep5 W wz ∧ W.heap.size ≤ wz.heap.size)
          case first =>
            cases gv
            · go_wp2
              go_meet
              refine ⟨?_, Keep5.refl _, Nat.le_refl _⟩
              have h := HBW.out
              simpa [labL] using h
            · have HSP := Lib.hid (spell_any j (by omega))
              have hds := decB_size j
              go_wp2_with fail
              refine (HSP.out _).mono ?_
              rintro e w2 ⟨rfl, hb2⟩
              have hB2s := hb2.size
              have HB2 := Lib.hid (HBW.out.keep hb2 (by omega))
              have HK2 := Lib.hid (Keep5.below hb2)
              clear hb2
              go_wp2_with (at_builtin; refine wp_appS rfl _ _ rfl rfl HB2.out _ rfl ?_ (by omega) ?_)
              · simp only [ByteArray.size_append]
                show _ + (1 + _ + 2) ≤ _
                omega
              · intro v3 w3 hb3 hk3 hs3
                have HB3 := Lib.hid hb3
                have HK3 := Lib.hid hk3
                clear hb3 hk3
                go_wp2
                go_meet
                refine ⟨?_, HK2.out.trans HK3.out, by omega⟩
                have h := HB3.out
                have e : acc ++ 112 :: ((decB j).data.toList ++ [58, 10]) = acc ++ labL j true := by
                  unfold labL decB; simp
                rw [e] at h; exact h
          case rest =>
            obtain ⟨wq, hwq⟩ : ∃ wq, wc = wq := ⟨_, rfl⟩
            obtain ⟨hb1, hk1, hs1⟩ := hcut
            have HB1 := Lib.hid hb1
            have HK1 := Lib.hid hk1
            clear hb1 hk1 hwq
            have hlab : (labL j gv).length ≤ 23 := by
              have := decGo_len 20 j []
              unfold labL decL
              cases gv <;> simp at this ⊢ <;> omega
            obtain ⟨acc1, hacc1⟩ : ∃ acc1, acc1 = acc ++ labL j gv := ⟨_, rfl⟩
            rw [← hacc1] at HB1
            have hal1 : acc1.length ≤ 450 * j + 23 := by rw [hacc1, List.length_append]; omega
            have HA1 := Lib.hid hacc1
            have hx1 := HK1.out _ _ _ _ (by decide) HXR.out
            have c0 : wc.cell? ⟨xb, 0, none⟩ = some (.int .i64 X.op) := rowCell hx1
            have HN1 := Lib.hid (name_any X.op)
            have hnz := nameOf_size X.op
            clear hacc1 hx1
            have hwc : w.heap.size ≤ wc.heap.size := by omega
            go_wp2_with fail
            refine (HN1.out _).mono ?_
            rintro e w2 ⟨rfl, rfl⟩
            go_wp2_with (at_builtin; refine wp_appS rfl _ _ rfl rfl HB1.out _ rfl (by omega) hwc ?_)
            intro v3 w3 hb3 hk3 hs3
            have HB3 := Lib.hid hb3
            have HK3 := Lib.hid (HK1.out.trans hk3)
            have hx3 := HK3.out _ _ _ _ (by decide) HXR.out
            obtain ⟨acc2, hacc2⟩ : ∃ acc2, acc2 = acc1 ++ (nameOf X.op).data.toList := ⟨_, rfl⟩
            rw [← hacc2] at HB3
            have hal2 : acc2.length ≤ 450 * j + 250 := by
              have h9 : (nameOf X.op).data.toList.length = (nameOf X.op).size := by simp
              rw [hacc2, List.length_append, h9]; omega
            have HA2 := Lib.hid hacc2
            clear c0 hb3 hk3 hacc2
            have d0 : w3.cell? ⟨xb, 0, none⟩ = some (.int .i64 X.op) := rowCell hx3
            clear hx3
            obtain ⟨ka, kb, kc, hkk⟩ : ∃ ka kb kc, opndsV X.op = (ka, kb, kc) := ⟨_, _, _, rfl⟩
            have HKK := Lib.hid hkk
            have HGX2 : Hid (∀ i, i < cntV (ka, kb, kc) → ShowOk X (kindAt (ka, kb, kc) i)) := by intro i hi; rw [← hkk] at hi ⊢; exact HGX.out.opnd i hi
            have HOP : Hid (∀ w, Calls Tryd.prog 27 #[.int .i64 X.op] w (RetO (ka, kb, kc) w)) := fun w => hkk ▸ operands_any X.op w
            have hc3 := cntV_le (ka, kb, kc)
            clear hkk
            go_wp2_with fail
            refine (HOP.out _).mono ?_
            rintro e w4 ⟨rfl, hb4⟩
            have hs4 := hb4.size
            have HB4 := Lib.hid (HB3.out.keep hb4 (by omega))
            have HK4 := Lib.hid (HK3.out.trans (Keep5.below hb4))
            clear hb4 d0
            obtain ⟨wo2, rfl⟩ : ∃ wo2 : World, wo2 = wr := ⟨_, rfl⟩
            go_wp2_with fail
            go_loopw [8, 71] (fun v s wz => ∃ (i : Nat) (accI : List UInt8), s = .int .i64 i ∧ i ≤ cntV (ka, kb, kc) ∧ Hid (acc2 ++ opsL X (ka, kb, kc) i = accI) ∧ accI.length ≤ 450 * j + 250 + 46 * i ∧ Buf w.heap.size w wz v accI ∧ Keep5 W wz ∧ W.heap.size ≤ wz.heap.size) (fun _ s _ => 3 - (intOf s).toNat)
            case atStart => exact ⟨0, acc2, rfl, Nat.zero_le _, by show _ = _; simp [opsL], by omega, HB4.out, HK4.out, by omega⟩
            case round =>
              obtain ⟨i, accI, rfl, hi, HAI, hai, hbi, hki, hsi⟩ := hrel
              have HBI := Lib.hid hbi
              have HKI := Lib.hid hki
              have hwi : w.heap.size ≤ wr.heap.size := by omega
              have hx1 := hki _ _ _ _ (by decide) HXR.out
              have c0 : wr.cell? ⟨xb, 0, none⟩ = some (.int .i64 X.op) := rowCell hx1
              have c1 : wr.cell? ⟨xb, 1, none⟩ = some (.int .i64 X.a) := rowCell hx1
              have c2 : wr.cell? ⟨xb, 2, none⟩ = some (.int .i64 X.b) := rowCell hx1
              have c3 : wr.cell? ⟨xb, 3, none⟩ = some (.int .i64 X.c) := rowCell hx1
              have c4 : wr.cell? ⟨xb, 4, none⟩ = some (.int .u64 X.v) := rowCell hx1
              have c5 : wr.cell? ⟨xb, 5, none⟩ = some (.int .i64 X.m) := rowCell hx1
              have c6 : wr.cell? ⟨xb, 6, none⟩ = some (.int .i64 X.wh) := rowCell hx1
              clear hbi hki hx1
              by_cases hic : i < cntV (ka, kb, kc)
              · have h3 : i = 0 ∨ i = 1 ∨ i = 2 := by omega
                rcases h3 with rfl | rfl | rfl
                · have hkd : 1 ≤ ka ∧ ka ≤ 9 := kindAt_bd (i := 0) hic HKK.out
                  have hkz : (ka == 0) = false := by rw [beq_eq_false_iff_ne]; omega
                  have ix : ∀ w, (Instr.index 78 (.agg #[.int .i64 ka, .int .i64 kb, .int .i64 kc]) (.int .i64 0)).run Tryd.prog w = .ok (.int .i64 ka) w := fun _ => by kernel_rfl
                  have HSH := Lib.hid (shown_any X ka hkd (HGX2.out 0 hic))
                  have hss := shownV_size X ka
                  have HNX : Hid (acc2 ++ opsL X (ka, kb, kc) 1 = accI ++ 32 :: (shownV X ka).data.toList) := by
                    show _ = _
                    rw [← HAI.out]
                    show acc2 ++ (opsL X (ka, kb, kc) 0 ++ 32 :: (shownV X ka).data.toList) = _
                    simp
                  go_wp2_with (at_builtin; refine wp_appC rfl _ _ rfl rfl (HBI.out.keep ((Below.refl _ _).alloc (Nat.le_refl _) _) hwi) 32 wr.heap.size rfl ?_ (by omega) (by simp; omega) ?_)
                  · exact rowCell heap_alloc_at
                  · intro v5 w5 hb5 hk5 hs5
                    have HB5 := Lib.hid hb5
                    have HK5 : Hid (Keep5 W w5) := (HKI.out.trans (Keep5.below ((Below.refl _ _).alloc (Nat.le_refl _) _))).trans hk5
                    have hs6 : wr.heap.size + 1 ≤ w5.heap.size := by simpa using hs5
                    have hx5 := HK5.out _ _ _ _ (by decide) HXR.out
                    have y0 : w5.cell? ⟨xb, 0, none⟩ = some (.int .i64 X.op) := rowCell hx5
                    have y1 : w5.cell? ⟨xb, 1, none⟩ = some (.int .i64 X.a) := rowCell hx5
                    have y2 : w5.cell? ⟨xb, 2, none⟩ = some (.int .i64 X.b) := rowCell hx5
                    have y3 : w5.cell? ⟨xb, 3, none⟩ = some (.int .i64 X.c) := rowCell hx5
                    have y4 : w5.cell? ⟨xb, 4, none⟩ = some (.int .u64 X.v) := rowCell hx5
                    have y5 : w5.cell? ⟨xb, 5, none⟩ = some (.int .i64 X.m) := rowCell hx5
                    have y6 : w5.cell? ⟨xb, 6, none⟩ = some (.int .i64 X.wh) := rowCell hx5
                    clear hb5 hk5 hx5 c0 c1 c2 c3 c4 c5 c6
                    go_wp2_with fail
                    refine (HSH.out _).mono ?_
                    rintro e w6 ⟨rfl, hb6⟩
                    have hb6s := hb6.size
                    have HB6 := Lib.hid (HB5.out.keep hb6 (by omega))
                    have HK6 := Lib.hid (HK5.out.trans (Keep5.below hb6))
                    clear hb6 y0 y1 y2 y3 y4 y5 y6
                    go_wp2_with (at_builtin; refine wp_appS rfl _ _ rfl rfl HB6.out _ rfl ?_ (by omega) ?_)
                    · simp; omega
                    · intro v7 w7 hb7 hk7 hs7
                      have HB7 := Lib.hid hb7
                      have HK7 := Lib.hid (HK6.out.trans hk7)
                      clear hb7 hk7
                      go_wp2
                      go_roundw
                      case rel => exact ⟨1, _, rfl, by omega, HNX.out, by simp; omega, HB7.out, HK7.out, by omega⟩
                      case measure => simp [intOf]
                · have hkd : 1 ≤ kb ∧ kb ≤ 9 := kindAt_bd (i := 1) hic HKK.out
                  have hkz : (kb == 0) = false := by rw [beq_eq_false_iff_ne]; omega
                  have ix : ∀ w, (Instr.index 78 (.agg #[.int .i64 ka, .int .i64 kb, .int .i64 kc]) (.int .i64 1)).run Tryd.prog w = .ok (.int .i64 kb) w := fun _ => by kernel_rfl
                  have HSH := Lib.hid (shown_any X kb hkd (HGX2.out 1 hic))
                  have hss := shownV_size X kb
                  have HNX : Hid (acc2 ++ opsL X (ka, kb, kc) 2 = accI ++ 32 :: (shownV X kb).data.toList) := by
                    show _ = _
                    rw [← HAI.out]
                    show acc2 ++ (opsL X (ka, kb, kc) 1 ++ 32 :: (shownV X kb).data.toList) = _
                    simp
                  go_wp2_with (at_builtin; refine wp_appC rfl _ _ rfl rfl (HBI.out.keep ((Below.refl _ _).alloc (Nat.le_refl _) _) hwi) 32 wr.heap.size rfl ?_ (by omega) (by simp; omega) ?_)
                  · exact rowCell heap_alloc_at
                  · intro v5 w5 hb5 hk5 hs5
                    have HB5 := Lib.hid hb5
                    have HK5 : Hid (Keep5 W w5) := (HKI.out.trans (Keep5.below ((Below.refl _ _).alloc (Nat.le_refl _) _))).trans hk5
                    have hs6 : wr.heap.size + 1 ≤ w5.heap.size := by simpa using hs5
                    have hx5 := HK5.out _ _ _ _ (by decide) HXR.out
                    have y0 : w5.cell? ⟨xb, 0, none⟩ = some (.int .i64 X.op) := rowCell hx5
                    have y1 : w5.cell? ⟨xb, 1, none⟩ = some (.int .i64 X.a) := rowCell hx5
                    have y2 : w5.cell? ⟨xb, 2, none⟩ = some (.int .i64 X.b) := rowCell hx5
                    have y3 : w5.cell? ⟨xb, 3, none⟩ = some (.int .i64 X.c) := rowCell hx5
                    have y4 : w5.cell? ⟨xb, 4, none⟩ = some (.int .u64 X.v) := rowCell hx5
                    have y5 : w5.cell? ⟨xb, 5, none⟩ = some (.int .i64 X.m) := rowCell hx5
                    have y6 : w5.cell? ⟨xb, 6, none⟩ = some (.int .i64 X.wh) := rowCell hx5
                    clear hb5 hk5 hx5 c0 c1 c2 c3 c4 c5 c6
                    go_wp2_with fail
                    refine (HSH.out _).mono ?_
                    rintro e w6 ⟨rfl, hb6⟩
                    have hb6s := hb6.size
                    have HB6 := Lib.hid (HB5.out.keep hb6 (by omega))
                    have HK6 := Lib.hid (HK5.out.trans (Keep5.below hb6))
                    clear hb6 y0 y1 y2 y3 y4 y5 y6
                    go_wp2_with (at_builtin; refine wp_appS rfl _ _ rfl rfl HB6.out _ rfl ?_ (by omega) ?_)
                    · simp; omega
                    · intro v7 w7 hb7 hk7 hs7
                      have HB7 := Lib.hid hb7
                      have HK7 := Lib.hid (HK6.out.trans hk7)
                      clear hb7 hk7
                      go_wp2
                      go_roundw
                      case rel => exact ⟨2, _, rfl, by omega, HNX.out, by simp; omega, HB7.out, HK7.out, by omega⟩
                      case measure => simp [intOf]
                · have hkd : 1 ≤ kc ∧ kc ≤ 9 := kindAt_bd (i := 2) hic HKK.out
                  have hkz : (kc == 0) = false := by rw [beq_eq_false_iff_ne]; omega
                  have ix : ∀ w, (Instr.index 78 (.agg #[.int .i64 ka, .int .i64 kb, .int .i64 kc]) (.int .i64 2)).run Tryd.prog w = .ok (.int .i64 kc) w := fun _ => by kernel_rfl
                  have HSH := Lib.hid (shown_any X kc hkd (HGX2.out 2 hic))
                  have hss := shownV_size X kc
                  have HNX : Hid (acc2 ++ opsL X (ka, kb, kc) 3 = accI ++ 32 :: (shownV X kc).data.toList) := by
                    show _ = _
                    rw [← HAI.out]
                    show acc2 ++ (opsL X (ka, kb, kc) 2 ++ 32 :: (shownV X kc).data.toList) = _
                    simp
                  go_wp2_with (at_builtin; refine wp_appC rfl _ _ rfl rfl (HBI.out.keep ((Below.refl _ _).alloc (Nat.le_refl _) _) hwi) 32 wr.heap.size rfl ?_ (by omega) (by simp; omega) ?_)
                  · exact rowCell heap_alloc_at
                  · intro v5 w5 hb5 hk5 hs5
                    have HB5 := Lib.hid hb5
                    have HK5 : Hid (Keep5 W w5) := (HKI.out.trans (Keep5.below ((Below.refl _ _).alloc (Nat.le_refl _) _))).trans hk5
                    have hs6 : wr.heap.size + 1 ≤ w5.heap.size := by simpa using hs5
                    have hx5 := HK5.out _ _ _ _ (by decide) HXR.out
                    have y0 : w5.cell? ⟨xb, 0, none⟩ = some (.int .i64 X.op) := rowCell hx5
                    have y1 : w5.cell? ⟨xb, 1, none⟩ = some (.int .i64 X.a) := rowCell hx5
                    have y2 : w5.cell? ⟨xb, 2, none⟩ = some (.int .i64 X.b) := rowCell hx5
                    have y3 : w5.cell? ⟨xb, 3, none⟩ = some (.int .i64 X.c) := rowCell hx5
                    have y4 : w5.cell? ⟨xb, 4, none⟩ = some (.int .u64 X.v) := rowCell hx5
                    have y5 : w5.cell? ⟨xb, 5, none⟩ = some (.int .i64 X.m) := rowCell hx5
                    have y6 : w5.cell? ⟨xb, 6, none⟩ = some (.int .i64 X.wh) := rowCell hx5
                    clear hb5 hk5 hx5 c0 c1 c2 c3 c4 c5 c6
                    go_wp2_with fail
                    refine (HSH.out _).mono ?_
                    rintro e w6 ⟨rfl, hb6⟩
                    have hb6s := hb6.size
                    have HB6 := Lib.hid (HB5.out.keep hb6 (by omega))
                    have HK6 := Lib.hid (HK5.out.trans (Keep5.below hb6))
                    clear hb6 y0 y1 y2 y3 y4 y5 y6
                    go_wp2_with (at_builtin; refine wp_appS rfl _ _ rfl rfl HB6.out _ rfl ?_ (by omega) ?_)
                    · simp; omega
                    · intro v7 w7 hb7 hk7 hs7
                      have HB7 := Lib.hid hb7
                      have HK7 := Lib.hid (HK6.out.trans hk7)
                      clear hb7 hk7
                      go_wp2
                      go_roundw
                      case rel => exact ⟨3, _, rfl, by omega, HNX.out, by simp; omega, HB7.out, HK7.out, by omega⟩
                      case measure => simp [intOf]
              · obtain ⟨ci, hci⟩ : ∃ ci, ci = cntV (ka, kb, kc) := ⟨_, rfl⟩
                obtain rfl : i = ci := by omega
                have HML : Hid (∀ w, Calls Tryd.prog 29 #[insAgg X] w (RetSN (markedV X) w)) := Lib.hid (marked_any X HGX.out.m HGX.out.wh)
                have hms := markedV_size X
                have hcase : i = 3 ∨ (i = 0 ∧ ka = 0) ∨ (i = 1 ∧ kb = 0) ∨ (i = 2 ∧ kc = 0) := by
                  rw [hci]; unfold cntV; simp only
                  repeat' split
                  all_goals simp_all
                have HEND : Hid (linesTo l (j + 1) = accI ++ ((markedV X).data.toList ++ [10])) := by
                  show _ = _
                  have e1 : acc2 ++ opsL X (ka, kb, kc) i = accI := HAI.out
                  have e2 : linesTo l j = acc := HAC.out
                  have e3 : l.getD j zI = X := by rw [List.getD_eq_getElem?_getD, HX.out]; rfl
                  rw [linesTo_succ, e2, e3, ← HGV.out, ← e1, HA2.out, HA1.out]
                  unfold insL
                  rw [HKK.out, ← hci]
                  simp
                have hjl2 : accI.length ≤ 450 * j + 390 := by have := cntV_le (ka, kb, kc); omega
                have HKR : Hid (RowG W gb (gTo l k k)) := HRW
                clear hic HOP HGX2 hci hi hai
                rcases hcase with rfl | ⟨rfl, hz⟩ | ⟨rfl, hz⟩ | ⟨rfl, hz⟩
                · go_wp2_with fail
                  refine (HML.out _).mono ?_
                  rintro e w6 ⟨rfl, hb6⟩
                  have hb6s := hb6.size
                  have HB6 := Lib.hid (HBI.out.keep hb6 hwi)
                  have HK6 := Lib.hid (HKI.out.trans (Keep5.below hb6))
                  clear hb6 c0 c1 c2 c3 c4 c5 c6
                  go_wp2_with (at_builtin; refine wp_appS rfl _ _ rfl rfl HB6.out _ rfl ?_ (by omega) ?_)
                  · omega
                  · intro v7 w7 hb7 hk7 hs7
                    have HB7 := Lib.hid hb7
                    have HK7 := Lib.hid (HK6.out.trans hk7)
                    clear hb7 hk7
                    have h9 : (markedV X).data.toList.length = (markedV X).size := by simp
                    go_wp2_with (at_builtin; refine wp_appC rfl _ _ rfl rfl (HB7.out.keep ((Below.refl _ _).alloc (Nat.le_refl _) _) (by omega)) 10 w7.heap.size rfl ?_ (by rw [List.length_append, h9]; omega) (by simp; omega) ?_)
                    · exact rowCell heap_alloc_at
                    · intro v8 w8 hb8 hk8 hs8
                      have HB8 := Lib.hid hb8
                      have HK8 : Hid (Keep5 W w8) := (HK7.out.trans (Keep5.below ((Below.refl _ _).alloc (Nat.le_refl _) _))).trans hk8
                      clear hb8 hk8
                      go_wp2
                      go_roundw
                      case rel => exact ⟨j + 1, _, by go_num, by omega, HEND.out, by rw [List.length_append, List.length_append, h9]; simp; omega, HB8.out, HK8.out _ _ _ _ (by decide) HKR.out⟩
                      case measure => simp [intOf]; omega
                · have hkz : (ka == 0) = true := by simp [hz]
                  have ix : ∀ w, (Instr.index 78 (.agg #[.int .i64 ka, .int .i64 kb, .int .i64 kc]) (.int .i64 0)).run Tryd.prog w = .ok (.int .i64 ka) w := fun _ => by kernel_rfl
                  clear hz
                  go_wp2_with fail
                  refine (HML.out _).mono ?_
                  rintro e w6 ⟨rfl, hb6⟩
                  have hb6s := hb6.size
                  have HB6 := Lib.hid (HBI.out.keep hb6 hwi)
                  have HK6 := Lib.hid (HKI.out.trans (Keep5.below hb6))
                  clear hb6 c0 c1 c2 c3 c4 c5 c6
                  go_wp2_with (at_builtin; refine wp_appS rfl _ _ rfl rfl HB6.out _ rfl ?_ (by omega) ?_)
                  · omega
                  · intro v7 w7 hb7 hk7 hs7
                    have HB7 := Lib.hid hb7
                    have HK7 := Lib.hid (HK6.out.trans hk7)
                    clear hb7 hk7
                    have h9 : (markedV X).data.toList.length = (markedV X).size := by simp
                    go_wp2_with (at_builtin; refine wp_appC rfl _ _ rfl rfl (HB7.out.keep ((Below.refl _ _).alloc (Nat.le_refl _) _) (by omega)) 10 w7.heap.size rfl ?_ (by rw [List.length_append, h9]; omega) (by simp; omega) ?_)
                    · exact rowCell heap_alloc_at
                    · intro v8 w8 hb8 hk8 hs8
                      have HB8 := Lib.hid hb8
                      have HK8 : Hid (Keep5 W w8) := (HK7.out.trans (Keep5.below ((Below.refl _ _).alloc (Nat.le_refl _) _))).trans hk8
                      clear hb8 hk8
                      go_wp2
                      go_roundw
                      case rel => exact ⟨j + 1, _, by go_num, by omega, HEND.out, by rw [List.length_append, List.length_append, h9]; simp; omega, HB8.out, HK8.out _ _ _ _ (by decide) HKR.out⟩
                      case measure => simp [intOf]; omega
                · have hkz : (kb == 0) = true := by simp [hz]
                  have ix : ∀ w, (Instr.index 78 (.agg #[.int .i64 ka, .int .i64 kb, .int .i64 kc]) (.int .i64 1)).run Tryd.prog w = .ok (.int .i64 kb) w := fun _ => by kernel_rfl
                  clear hz
                  go_wp2_with fail
                  refine (HML.out _).mono ?_
                  rintro e w6 ⟨rfl, hb6⟩
                  have hb6s := hb6.size
                  have HB6 := Lib.hid (HBI.out.keep hb6 hwi)
                  have HK6 := Lib.hid (HKI.out.trans (Keep5.below hb6))
                  clear hb6 c0 c1 c2 c3 c4 c5 c6
                  go_wp2_with (at_builtin; refine wp_appS rfl _ _ rfl rfl HB6.out _ rfl ?_ (by omega) ?_)
                  · omega
                  · intro v7 w7 hb7 hk7 hs7
                    have HB7 := Lib.hid hb7
                    have HK7 := Lib.hid (HK6.out.trans hk7)
                    clear hb7 hk7
                    have h9 : (markedV X).data.toList.length = (markedV X).size := by simp
                    go_wp2_with (at_builtin; refine wp_appC rfl _ _ rfl rfl (HB7.out.keep ((Below.refl _ _).alloc (Nat.le_refl _) _) (by omega)) 10 w7.heap.size rfl ?_ (by rw [List.length_append, h9]; omega) (by simp; omega) ?_)
                    · exact rowCell heap_alloc_at
                    · intro v8 w8 hb8 hk8 hs8
                      have HB8 := Lib.hid hb8
                      have HK8 : Hid (Keep5 W w8) := (HK7.out.trans (Keep5.below ((Below.refl _ _).alloc (Nat.le_refl _) _))).trans hk8
                      clear hb8 hk8
                      go_wp2
                      go_roundw
                      case rel => exact ⟨j + 1, _, by go_num, by omega, HEND.out, by rw [List.length_append, List.length_append, h9]; simp; omega, HB8.out, HK8.out _ _ _ _ (by decide) HKR.out⟩
                      case measure => simp [intOf]; omega
                · have hkz : (kc == 0) = true := by simp [hz]
                  have ix : ∀ w, (Instr.index 78 (.agg #[.int .i64 ka, .int .i64 kb, .int .i64 kc]) (.int .i64 2)).run Tryd.prog w = .ok (.int .i64 kc) w := fun _ => by kernel_rfl
                  clear hz
                  go_wp2_with fail
                  refine (HML.out _).mono ?_
                  rintro e w6 ⟨rfl, hb6⟩
                  have hb6s := hb6.size
                  have HB6 := Lib.hid (HBI.out.keep hb6 hwi)
                  have HK6 := Lib.hid (HKI.out.trans (Keep5.below hb6))
                  clear hb6 c0 c1 c2 c3 c4 c5 c6
                  go_wp2_with (at_builtin; refine wp_appS rfl _ _ rfl rfl HB6.out _ rfl ?_ (by omega) ?_)
                  · omega
                  · intro v7 w7 hb7 hk7 hs7
                    have HB7 := Lib.hid hb7
                    have HK7 := Lib.hid (HK6.out.trans hk7)
                    clear hb7 hk7
                    have h9 : (markedV X).data.toList.length = (markedV X).size := by simp
                    go_wp2_with (at_builtin; refine wp_appC rfl _ _ rfl rfl (HB7.out.keep ((Below.refl _ _).alloc (Nat.le_refl _) _) (by omega)) 10 w7.heap.size rfl ?_ (by rw [List.length_append, h9]; omega) (by simp; omega) ?_)
                    · exact rowCell heap_alloc_at
                    · intro v8 w8 hb8 hk8 hs8
                      have HB8 := Lib.hid hb8
                      have HK8 : Hid (Keep5 W w8) := (HK7.out.trans (Keep5.below ((Below.refl _ _).alloc (Nat.le_refl _) _))).trans hk8
                      clear hb8 hk8
                      go_wp2
                      go_roundw
                      case rel => exact ⟨j + 1, _, by go_num, by omega, HEND.out, by rw [List.length_append, List.length_append, h9]; simp; omega, HB8.out, HK8.out _ _ _ _ (by decide) HKR.out⟩
                      case measure => simp [intOf]; omega
        · obtain rfl : j = k := by omega
          have hk3 : ¬ (j : Int) < (j : Int) := by omega
          have hcv := HBF.out.text
          have HE : Hid ((⟨acc.toArray⟩ : ByteArray) = ⟨(linesTo l j).toArray⟩) := by show _ = _; rw [HAC.out]
          have HBE := Lib.hid hbuf.below
          clear hbuf hrg HG HB
          go_wp2_with fail
          go_ret2
          exact printMk HE.out HBE.out
end Go.Proofs.YtnoejikcdigceaaDoor

set_option linter.unusedVariables false
set_option linter.unusedSimpArgs false
namespace Go.Proofs.YtnoejikcdigceaaDoor
open Go.RowKit
theorem badIx_all (n : Int) (lib : Bool) : ∀ (l : List Ins) (i : Nat), badIx n lib l i = none → ∀ X ∈ l, mayV X n lib = true
  | [], _, _, _, h => by cases h
  | Y :: l, i, h, X, hX => by
    unfold badIx at h
    split at h
    · rename_i hy
      rcases List.mem_cons.1 hX with rfl | hX
      · exact hy
      · exact badIx_all n lib l _ h X hX
    · cases h
theorem badV_may {l : List Ins} (h : badV l < 0) {X : Ins} (hX : X ∈ l) : mayV X l.length (isLib X) = true := by
  unfold badV at h
  rw [badTo_2, badTo_1] at h
  have h1 : badR1 l = none := by
    cases e1 : badR1 l with
    | none => rfl
    | some x =>
      rw [e1] at h
      cases e2 : badR2 l with
      | none => rw [e2] at h; simp [comb, badTo] at h; omega
      | some y => rw [e2] at h; simp [comb, badTo] at h; split at h <;> omega
  have h2 : badR2 l = none := by
    cases e2 : badR2 l with
    | none => rfl
    | some y => rw [h1, e2] at h; simp [comb, badTo] at h; omega
  cases hl : isLib X with
  | true =>
    have := badIx_all _ _ _ _ h2 (libV X) (List.mem_map_of_mem hX)
    unfold libV at this; rw [hl] at this; exact this
  | false =>
    have := badIx_all _ _ _ _ h1 (cliV X) (List.mem_map_of_mem hX)
    unfold cliV at this; rw [hl] at this; exact this
def kindsOk (op : Int) (j : Nat) : Bool :=
  let K := kindAt (opndsV op) j
  let F := fieldsV op
  !decide (j < cntV (opndsV op)) || ((!decide (K = 1) || F.1) && (!decide (K = 2) || (F.2.1 && !lessB op)) && (!decide (K = 5 ∨ K = 6) || F.2.1) && (!decide (K = 3) || (F.2.2.1 && !lessC op)) && (!decide (K = 4) || F.2.2.1))
theorem kinds_ok : ∀ o : Fin 58, ∀ j : Fin 3, kindsOk ((o.val : Int) + 1) j.val = true := by decide +kernel
theorem may_of {X : Ins} {n : Int} {lib : Bool} (h : mayV X n lib = true) (hv : 0 ≤ X.v ∧ X.v ≤ 18446744073709551615) (N : Nat) (hn : n = N) : Good X N := by
  unfold mayV at h
  simp only [Bool.and_eq_true] at h
  obtain ⟨⟨ho, hf⟩, hm⟩ := h
  have hop : 1 ≤ X.op ∧ X.op ≤ 58 := by unfold opMay at ho; simp at ho; exact ho.1
  unfold fldMay at hf
  simp only [Bool.and_eq_true] at hf
  obtain ⟨⟨⟨ha, hb⟩, hc⟩, hnum⟩ := hf
  unfold mrkMay at hm
  simp only [Bool.and_eq_true] at hm
  have hm1 := of_decide_eq_true hm.1
  refine ⟨?_, ?_, ⟨hm1.1, hm1.2.1⟩, hm1.2.2⟩
  · intro hj
    unfold isJ at hj
    have hj := of_decide_eq_true hj
    unfold numOk at hnum
    rw [if_pos hj] at hnum
    have := of_decide_eq_true hnum
    exact ⟨hv.1, by omega⟩
  · intro j hj
    have h3 : j < 3 := Nat.lt_of_lt_of_le hj (cntV_le _)
    have hk := kinds_ok ⟨(X.op - 1).toNat, by omega⟩ ⟨j, h3⟩
    have e : (((X.op - 1).toNat : Nat) : Int) + 1 = X.op := by omega
    simp only [e] at hk
    unfold kindsOk at hk
    simp only [hj, decide_true, Bool.not_true, Bool.false_or, Bool.and_eq_true] at hk
    obtain ⟨⟨⟨⟨k1, k2⟩, k5⟩, k3⟩, k4⟩ := hk
    refine ⟨?_, ?_, ?_, hv⟩
    · intro hk
      rw [hk] at k1
      have : (fieldsV X.op).1 = true := by simpa using k1
      rw [this] at ha; unfold regOk at ha
      simp at ha; omega
    · intro hk
      rcases hk with hk | ⟨hk, hx⟩ | ⟨hk, hx⟩
      · rw [hk] at k2
        have : (fieldsV X.op).2.1 = true ∧ lessB X.op = false := by simpa using k2
        rw [this.1, this.2] at hb; unfold regOk at hb
        simp at hb; omega
      all_goals
        rw [hk] at k5
        have : (fieldsV X.op).2.1 = true := by simpa using k5
        rw [this] at hb; unfold regOk at hb
        simp at hb; omega
    · intro hk
      rcases hk with hk | ⟨hk, hx⟩
      · rw [hk] at k3
        have : (fieldsV X.op).2.2.1 = true ∧ lessC X.op = false := by simpa using k3
        rw [this.1, this.2] at hc; unfold regOk at hc
        simp at hc; omega
      · rw [hk] at k4
        have : (fieldsV X.op).2.2.1 = true := by simpa using k4
        rw [this] at hc; unfold regOk at hc
        simp at hc; omega
theorem Printed.err {r : Except (Int × Int) ByteArray} {n k : Int} {w w1 : World} (h : r = .error (n, k)) (hb : Below w.heap.size w w1) :
    Printed r w (.returned (.tuple #[.string ⟨#[]⟩, .iface 68 (.pointer (some ⟨w1.heap.size, 0, none⟩))])) (w1.alloc (.cells #[.string ⟨#[97, 115, 109]⟩, .int .i64 n, .iface 41 (.int .i64 k)] 72)) := by
  subst h
  exact ⟨_, rfl, hb.size, heap_alloc_at, hb.alloc hb.size _⟩
set_option maxRecDepth 100000 in
set_option maxHeartbeats 4000000 in
theorem print_any (l : List Ins) (a : Option Addr) (c : Nat) (hc : l.length ≤ c) (hc9 : l.length ≤ 9223372036854775807) (w : World) (hr : l ≠ [] → ∃ g, a = some ⟨g, 0, none⟩ ∧ RowI w g l)
    (hge : w.cell? ⟨0, 0, none⟩ = some (.iface 119 (.agg #[.pointer (some ⟨4, 28, none⟩)]))) (hv : ∀ X ∈ l, 0 ≤ X.v ∧ X.v ≤ 18446744073709551615) :
    Calls Tryd.prog 14 #[.slice a l.length c] w (Printed (printV l) w) := by
  by_cases hl : 2048 < l.length
  · have HE : Hid (printV l = .error (0, 3)) := by show _ = _; unfold printV; rw [if_pos hl]
    have HB := Lib.hid (Below.refl w.heap.size w)
    have hl2 : (2048 : Int) < (l.length : Int) := by omega
    clear hr hge hv
    go_enter Tryd.func14, Tryd.ntmps14
    go_wp2_with (go_at_call 19; refine (afail_any _ _ _ _).mono ?_; rintro e w' ⟨rfl, rfl⟩)
    go_ret2
    exact Printed.err HE.out HB.out
  · have hl : l.length ≤ 2048 := by omega
    by_cases hbad : badV l < 0
    · have HE : printV l = .ok ⟨(linesTo l l.length).toArray⟩ := by unfold printV; rw [if_neg (by omega), if_neg (by omega)]; rfl
      rw [HE]
      refine (print_good l a c hl hc w hr hge (fun X hX => may_of (badV_may hbad hX) (hv X hX) _ rfl) hbad).mono ?_
      rintro e w' ⟨rfl, hb⟩
      exact ⟨rfl, hb⟩
    · have HE : Hid (printV l = .error (badV l, 5)) := by show _ = _; unfold printV; rw [if_neg (by omega), if_pos (by omega)]
      have HBA := Lib.hid (bad_any l a c hl hc w hr hge)
      have hl2 : ¬ (2048 : Int) < (l.length : Int) := by omega
      obtain ⟨bd, hbd⟩ : ∃ bd, badV l = bd := ⟨_, rfl⟩
      rw [hbd] at HE HBA hbad
      have hbad2 : 0 ≤ bd := by omega
      clear hr hge hv hbd
      go_enter Tryd.func14, Tryd.ntmps14
      go_wp2_with fail
      refine HBA.out.mono ?_
      rintro e w1 ⟨rfl, hb1⟩
      have HB1 := Lib.hid hb1
      have hz1 := hb1.size
      clear hb1 HBA
      go_wp2_with (go_at_call 19; refine (afail_any _ _ _ _).mono ?_; rintro e w' ⟨rfl, rfl⟩)
      go_ret2
      exact Printed.err HE.out HB1.out
end Go.Proofs.YtnoejikcdigceaaDoor
