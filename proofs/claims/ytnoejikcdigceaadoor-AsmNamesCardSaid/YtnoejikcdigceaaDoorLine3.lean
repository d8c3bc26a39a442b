/- asm.reader.line at an instruction: its first part. -/
import Derived.Test.YtnoejikcdigceaaDoorRdP
import Derived.Deep.AppendLies
import Derived.Deep.RegionLaw
import Derived.Deep.DeepCutAuto
import Derived.BigQuiet
set_option linter.unusedVariables false
set_option linter.unusedSimpArgs false
namespace Go.Proofs.YtnoejikcdigceaaDoor
open Go.RowKit
def cntV (k : Int × Int × Int) : Nat := if k.1 = 0 then 0 else if k.2.1 = 0 then 1 else if k.2.2 = 0 then 2 else 3
def kindAt (k : Int × Int × Int) (i : Nat) : Int := if i = 0 then k.1 else if i = 1 then k.2.1 else k.2.2
def wordAt (ws : List ByteArray) (i : Nat) : ByteArray := ws.getD i ByteArray.empty
def opndsGo (line : Int) (k : Int × Int × Int) (ws : List ByteArray) : Nat → Nat → RdSt → Ins → Except Bool (RdSt × Ins)
  | 0, _, st, X => .ok (st, X)
  | f + 1, i, st, X => match opndV st X (kindAt k i) (wordAt ws i) line with
    | .ok (st', X') => opndsGo line k ws f (i + 1) st' X'
    | .error t => .error t
def insPush (st : RdSt) : Except Bool Ins → Except Bool RdSt
  | .ok X => .ok { st with code := st.code ++ [X] }
  | .error t => .error t
def insEnd (n : Nat) (ws : List ByteArray) : Except Bool (RdSt × Ins) → Except Bool RdSt
  | .ok (st, X) => insPush st (if n < ws.length then markV X (wordAt ws n) else .ok X)
  | .error t => .error t
def insX (op : Int) : Ins := ⟨op, 0, 0, 0, 0, 0, 0⟩
def cntBad (n : Nat) (ws : List ByteArray) : Bool := decide (ws.length ≠ n ∧ (ws.length ≠ n + 1 ∨ byteAt (wordAt ws n) 0 ≠ 33))
def insV (st : RdSt) (w0 : ByteArray) (rest : List ByteArray) (line : Int) : Except Bool RdSt :=
  if opV w0 = 0 then .error true
  else if cntBad (cntV (opndsV (opV w0))) rest then .error true
  else insEnd (cntV (opndsV (opV w0))) rest (opndsGo line (opndsV (opV w0)) rest (cntV (opndsV (opV w0))) 0 st (insX (opV w0)))
def KRow (w : World) (bl : Nat) (k : Int × Int × Int) : Prop := w.heap[bl]? = some (.cells #[.int .i64 k.1, .int .i64 k.2.1, .int .i64 k.2.2] 78 (0, 0))

theorem cntV_le (k : Int × Int × Int) : cntV k ≤ 3 := by
  rcases k with ⟨a, b, c⟩
  simp only [cntV]
  by_cases a = 0 <;> by_cases b = 0 <;> by_cases c = 0 <;> simp_all
theorem cntV_stop (K : Int × Int × Int) (k : Nat) (hk : k ≤ cntV K) (h3 : k < 3) (hz : kindAt K k = 0) : k = cntV K := by
  rcases K with ⟨a, b, c⟩
  have h : k = 0 ∨ k = 1 ∨ k = 2 := by omega
  simp only [cntV, kindAt] at *
  rcases h with rfl | rfl | rfl <;> by_cases a = 0 <;> by_cases b = 0 <;> by_cases c = 0 <;> simp_all
theorem cntV_go (K : Int × Int × Int) (k : Nat) (hk : k ≤ cntV K) (h3 : k < 3) (hz : ¬ kindAt K k = 0) : k < cntV K := by
  rcases K with ⟨a, b, c⟩
  have h : k = 0 ∨ k = 1 ∨ k = 2 := by omega
  simp only [cntV, kindAt] at *
  rcases h with rfl | rfl | rfl <;> by_cases a = 0 <;> by_cases b = 0 <;> by_cases c = 0 <;> simp_all
theorem below_drew3 {B : Nat} {w w' : World} (h : Below B w.drew w') : Below B w w' := ⟨h.os, h.tape, h.output, h.size, h.block⟩
theorem opndsD_bd (f : Bool × Bool × Bool × Bool) : (0 ≤ (opndsD f).1 ∧ (opndsD f).1 ≤ 9) ∧ (0 ≤ (opndsD f).2.1 ∧ (opndsD f).2.1 ≤ 9) ∧ (0 ≤ (opndsD f).2.2 ∧ (opndsD f).2.2 ≤ 9) := by
  obtain ⟨a, b, c, d⟩ := f
  cases a <;> cases b <;> cases c <;> cases d <;> decide
theorem opndsV_bd (x : Int) : (0 ≤ (opndsV x).1 ∧ (opndsV x).1 ≤ 9) ∧ (0 ≤ (opndsV x).2.1 ∧ (opndsV x).2.1 ≤ 9) ∧ (0 ≤ (opndsV x).2.2 ∧ (opndsV x).2.2 ≤ 9) := by
  unfold opndsV
  repeat (split; · decide)
  exact opndsD_bd _
theorem kindAt_bd {x : Int} {K : Int × Int × Int} {i : Nat} (hi : i < cntV K) (hK : opndsV x = K) : 1 ≤ kindAt K i ∧ kindAt K i ≤ 9 := by
  have h := opndsV_bd x
  rw [hK] at h
  have h3 := cntV_le K
  obtain ⟨a, b, c⟩ := K
  have hk : i = 0 ∨ i = 1 ∨ i = 2 := by omega
  simp only [cntV, kindAt] at *
  rcases hk with rfl | rfl | rfl <;> by_cases a = 0 <;> by_cases b = 0 <;> by_cases c = 0 <;> simp_all <;> omega
theorem RdAt.self {w : World} {B p bx : Nat} {st : RdSt} (h : RdAt w B p bx st) : RdAt w B p p st := by
  obtain ⟨vl, vb, vn, vw, bm, hp, hB, hl, _, rest⟩ := h
  exact ⟨vl, vb, vn, vw, bm, hp, hB, hl, row_type hl hp (by decide), rest⟩
theorem info37 : (Tryd.prog.info? 37).map (fun i => (i.zero, i.size, i.bytes)) = some (some (.agg #[.int .i64 0, .int .i64 0, .int .i64 0, .int .i64 0, .int .u64 0, .int .i64 0, .int .i64 0]), 7, 56) := by kernel_rfl
theorem mark_call (s : ByteArray) (hs : s.size ≤ 65536) (h1 : 1 ≤ s.size) (line : Int) (bx : Nat) (X : Ins) (r : Except Bool Ins) (h : markV X s = r) (w : World) (hx : InsAt w bx X) :
    Calls Tryd.prog 38 #[.pointer (some ⟨bx, 0, none⟩), .string s, .int .i64 line] w (OpDone r bx line w) := by rw [← h]; exact mark_any s hs h1 line bx X w hx
theorem opndV_st {st st2 : RdSt} {X X2 : Ins} {kd line : Int} {y : ByteArray} (h : opndV st X kd y line = .ok (st2, X2)) : st2.wants.length ≤ st.wants.length + 1 ∧ st2.code.length = st.code.length := by
  unfold opndV at h
  split at h
  · injection h with h; injection h with h _; subst h; simp
  · split at h
    · cases h
    · unfold withSt at h
      split at h
      · injection h with h; injection h with h _; subst h; simp
      · cases h
theorem KRow.cell {w : World} {bl : Nat} {K : Int × Int × Int} (h : KRow w bl K) (k : Nat) (h3 : k < 3) : w.cell? ⟨bl, k, none⟩ = some (.int .i64 (kindAt K k)) := by
  rw [rowCell h]
  match k, h3 with
  | 0, _ => rfl
  | 1, _ => rfl
  | 2, _ => rfl
set_option maxRecDepth 100000 in
set_option maxHeartbeats 4000000 in
theorem line_noop (s : ByteArray) (hs : s.size ≤ 65536) (line : Int) (B p : Nat) (st : RdSt) (w : World) (hrd : RdAt w B p p st) (hB : B ≤ w.heap.size) (w0 : ByteArray) (rest : List ByteArray) (hw : wordsV s = w0 :: rest)
    (h1 : 1 ≤ w0.size) (h2 : w0.size ≤ 65536) (hc : rest ≠ [] ∨ byteAt w0 (w0.size - 1) ≠ 58) (hrl : rest.length ≤ 65536) (hop : opV w0 = 0) :
    Calls Tryd.prog 21 #[.pointer (some ⟨p, 0, none⟩), .string s, .int .i64 line] w (LineDone (.error true) B p line w) := by
  have HR := Lib.hid hrd
  have HW := Lib.hid hw
  have p1 : w0.size - 1 < w0.size := by omega
  have HOP := Lib.hid hop
  obtain ⟨L, hL⟩ : ∃ L, L = rest.length + 1 := ⟨_, rfl⟩
  have hL1 : 1 ≤ L := by omega
  have hL2 : L ≤ 65537 := by omega
  have HLL : Hid (L = rest.length + 1) := hL
  have hcc : ((L : Int) == 1) = false ∨ (((L : Int) == 1) = true ∧ ((w0[w0.size - 1].toNat : Int) == 58) = false) := by
    rcases Nat.eq_zero_or_pos rest.length with h | h
    · refine Or.inr ⟨by rw [beq_iff_eq]; omega, ?_⟩
      rcases hc with hc | hc
      · exact absurd (List.eq_nil_of_length_eq_zero h) hc
      · rw [byteAt_of, beq_eq_false_iff_ne]; exact hc
    · exact Or.inl (by rw [beq_eq_false_iff_ne]; omega)
  clear hrd hw hop hL hc hrl
  go_enter Tryd.func21, Tryd.ntmps21
  go_wp2_with fail
  refine (words_any s hs w).mono ?_
  rintro e w1 ⟨v, rfl, hown, hbel⟩
  rw [HW.out] at hown
  obtain ⟨g, cap, rfl, hBg, hcap, hcm, hrow⟩ := RowAt.of_owns hown (by simp)
  have hLe : (w0 :: rest).length = L := HLL.out.symm
  rw [hLe]
  have t0 : w1.cell? ⟨g, 0, none⟩ = some (.string w0) := hrow.cell (j := 0) rfl
  have hglt : g < w1.heap.size := hrow.lt
  have hcap1 : L ≤ cap := by rw [← hLe]; exact hcap
  clear hown hrow hLe hcap
  rcases hcc with hcc | ⟨hcc, hc2⟩
  all_goals
    go_wp2_with (first | (go_at_call 36; refine (op_any _ _).mono ?_; rintro e w' ⟨rfl, rfl⟩; rw [HOP.out]) | (go_at_call 19; refine (afail_any _ _ _ _).mono ?_; rintro e w' ⟨rfl, rfl⟩))
    go_ret
    exact LineDone.text rfl (by simp) ((hbel.mono hB).alloc (by have := hbel.size; omega) _) (by have := hbel.size; simp; omega)
set_option maxRecDepth 100000 in
set_option maxHeartbeats 4000000 in
theorem line_ins (s : ByteArray) (hs : s.size ≤ 65536) (line : Int) (B p : Nat) (st : RdSt) (w : World) (hrd : RdAt w B p p st) (hB : B ≤ w.heap.size) (w0 : ByteArray) (rest : List ByteArray) (hw : wordsV s = w0 :: rest)
    (h1 : 1 ≤ w0.size) (h2 : w0.size ≤ 65536) (hc : rest ≠ [] ∨ byteAt w0 (w0.size - 1) ≠ 58) (hrl : rest.length ≤ 65536) (hws : ∀ y ∈ rest, 1 ≤ y.size ∧ y.size ≤ 65536) (hop : opV w0 ≠ 0) (hl1 : st.wants.length ≤ 1000000) (hl2 : st.code.length ≤ 1048576) :
    Calls Tryd.prog 21 #[.pointer (some ⟨p, 0, none⟩), .string s, .int .i64 line] w (LineDone (insV st w0 rest line) B p line w) := by
  have HR := Lib.hid hrd
  have HW := Lib.hid hw
  have p1 : w0.size - 1 < w0.size := by omega
  have hop' : (opV w0 == 0) = false := by rw [beq_eq_false_iff_ne]; exact hop
  have HOP := Lib.hid hop
  have HWS := Lib.hid hws
  clear hws
  obtain ⟨K, hK⟩ : ∃ K, K = opndsV (opV w0) := ⟨_, rfl⟩
  have HK := Lib.hid hK
  clear hK
  obtain ⟨L, hL⟩ : ∃ L, L = rest.length + 1 := ⟨_, rfl⟩
  have hL1 : 1 ≤ L := by omega
  have hL2 : L ≤ 65537 := by omega
  have HLL : Hid (L = rest.length + 1) := hL
  have hcc : ((L : Int) == 1) = false ∨ (((L : Int) == 1) = true ∧ ((w0[w0.size - 1].toNat : Int) == 58) = false) := by
    rcases Nat.eq_zero_or_pos rest.length with h | h
    · refine Or.inr ⟨by rw [beq_iff_eq]; omega, ?_⟩
      rcases hc with hc | hc
      · exact absurd (List.eq_nil_of_length_eq_zero h) hc
      · rw [byteAt_of, beq_eq_false_iff_ne]; exact hc
    · exact Or.inl (by rw [beq_eq_false_iff_ne]; omega)
  clear hrd hw hop hL hc hrl
  go_enter Tryd.func21, Tryd.ntmps21
  go_wp2_with fail
  refine (words_any s hs w).mono ?_
  rintro e w1 ⟨v, rfl, hown, hbel⟩
  rw [HW.out] at hown
  obtain ⟨g, cap, rfl, hBg, hcap, hcm, hrow⟩ := RowAt.of_owns hown (by simp)
  have hLe : (w0 :: rest).length = L := HLL.out.symm
  rw [hLe]
  have t0 : w1.cell? ⟨g, 0, none⟩ = some (.string w0) := hrow.cell (j := 0) rfl
  have hglt : g < w1.heap.size := hrow.lt
  have hcap1 : L ≤ cap := by rw [← hLe]; exact hcap
  have hrow0 := hrow
  clear hown hrow hLe hcap
  obtain ⟨x, hx⟩ : ∃ x, x = opV w0 := ⟨_, rfl⟩
  have hcap3 : (cap : Int) ≤ 9223372036854775807 := by unfold maxLen at hcm; omega
  have HROW := Lib.hid hrow0
  have hxb : (x == 0) = false := by rw [hx]; exact hop'
  have HXX := Lib.hid hx

  have HKX : Hid (opndsV x = K) := by show _ = _; rw [hx]; exact HK.out.symm
  clear hx hop' hrow0
  go_upto_region 5 with fail
  go_cut [37] (fun s37 wc => s37 = .bool false ∧ wc = w1)
  case first =>
    rcases hcc with hcc | ⟨hcc, hc2⟩
    all_goals
      go_wp2_with fail
      go_meet
      exact ⟨rfl, rfl⟩
  case rest =>
    obtain ⟨rfl, rfl⟩ := hcut
    clear hcc
    go_upto_region 16 with (first | (go_at_call 36; refine (op_any _ _).mono ?_; rintro e w' ⟨rfl, rfl⟩; rw [← HXX.out]) | fail)
    go_cut [7] (fun s7 wz => ∃ o c7 R : Nat, s7 = .slice (some ⟨g, o, none⟩) R c7 ∧ R + 1 ≤ L ∧ L ≤ R + 1 ∧ (2 ≤ L → o = 1) ∧ R ≤ c7 ∧ c7 ≤ cap ∧ wz = wc.alloc (.cells #[.int .i64 x, .int .i64 0, .int .i64 0, .int .i64 0, .int .u64 0, .int .i64 0, .int .i64 0] 37))
    case first =>
      by_cases hc1 : cap ≤ 1
      · obtain rfl : cap = 1 := by omega
        go_wp2_with fail
        all_goals (go_meet; exact ⟨0, 0, 0, by first | rfl | rw [show L - 1 = 0 from by omega], by omega, by omega, by omega, by omega, by omega, rfl⟩)
      · go_wp2_with fail
        all_goals (go_meet; exact ⟨1, _, L - 1, rfl, by omega, by omega, by omega, by omega, by omega, rfl⟩)
    case rest =>
      obtain ⟨o, c7, R, rfl, hR1, hR2, ho, hc7, hc8, rfl⟩ := hcut
      have hb1 := hbel.size
      obtain ⟨bx, hbx⟩ : ∃ bx, bx = wc.heap.size := ⟨_, rfl⟩
      rw [← hbx]
      have HX1 : Hid (InsAt (wc.alloc (.cells #[.int .i64 x, .int .i64 0, .int .i64 0, .int .i64 0, .int .u64 0, .int .i64 0, .int .i64 0] 37)) bx (insX x)) := by
        rw [hbx]; exact heap_alloc_at
      have HBX := Lib.hid hbx
      clear hbx
      have q0 : (wc.alloc (.cells #[.int .i64 x, .int .i64 0, .int .i64 0, .int .i64 0, .int .u64 0, .int .i64 0, .int .i64 0] 37)).cell? ⟨bx, 0, none⟩ = some (.int .i64 x) := HX1.out.cell 0
      go_upto_region 18 with (first | (go_at_call 27; refine (operands_any _ _).mono ?_; rintro e w' ⟨rfl, hb5⟩; rw [HKX.out]) | fail)
      obtain ⟨bl, hbl⟩ : ∃ bl, bl = w'.heap.size := ⟨_, rfl⟩
      rw [← hbl]
      obtain ⟨wd, hwd⟩ : ∃ wd, w'.alloc (.cells #[.int .i64 K.1, .int .i64 K.2.1, .int .i64 K.2.2] 78) = wd := ⟨_, rfl⟩
      rw [hwd]
      have hbel5 : Below wc.heap.size wc wd := by
        rw [← hwd]
        exact ((((Below.refl _ wc).alloc (Nat.le_refl _) _).trans (hb5.mono (by simp))).alloc (by have := hb5.size; simp at this; omega) _)
      have hxd : InsAt wd bx (insX x) := by
        have h6 : Below (wc.heap.size + 1) (wc.alloc (.cells #[.int .i64 x, .int .i64 0, .int .i64 0, .int .i64 0, .int .u64 0, .int .i64 0, .int .i64 0] 37)) wd := by
          rw [← hwd]
          exact ((hb5.mono (by simp)).alloc (by have := hb5.size; simp at this; omega) _)
        unfold InsAt
        rw [h6.block bx (by rw [HBX.out]; omega)]
        exact HX1.out
      have hkd : KRow wd bl K := by rw [← hwd, hbl]; exact heap_alloc_at
      have HB5 := Lib.hid hbel5
      have HXD := Lib.hid hxd
      have HKD := Lib.hid hkd
      have hbB : B ≤ bx := by rw [HBX.out]; omega
      have HRD : Hid (RdAt wd B p bx st) := ((HR.out.below hbel).fresh bx (by rw [HBX.out]; exact Nat.le_refl _)).below hbel5
      have HRW : Hid (RowAt wd g (w0 :: rest)) := HROW.out.keep (keep_below hbel5)
      clear hbel5 hxd hkd hwd hb5 q0 HX1 hbl
      go_upto_block 0 with fail
      go_cut [13] (fun s13 wz => s13 = .int .i64 (cntV K) ∧ wd = wz)
      case first =>
        go_wp2_with fail
        go_loop [13] (fun n => ∃ k : Nat, k ≤ cntV K ∧ n = .int .i64 k) (fun n => 4 - (intOf n).toNat)
        case atStart => exact ⟨0, Nat.zero_le _, rfl⟩
        case round =>
          obtain ⟨k, hk, rfl⟩ := hrel
          have hk3 := cntV_le K
          by_cases h3 : k < 3
          · have ck := HKD.out.cell k h3
            by_cases hz : kindAt K k = 0
            · have hzb : (kindAt K k != 0) = false := by rw [bne_eq_false_iff_eq]; exact hz
              have hkn : Hid (k = cntV K) := cntV_stop K k hk h3 hz
              clear hz
              go_wp2
              all_goals (go_meet; exact ⟨by rw [hkn.out], rfl⟩)
            · have hzb : (kindAt K k != 0) = true := by rw [bne_iff_ne]; exact hz
              have hkn := cntV_go K k hk h3 hz
              clear hz
              go_wp2
              all_goals
                go_round
                case rel => exact ⟨k + 1, by omega, by go_num⟩
                case measure => simp [intOf]; omega
          · have hkn : Hid (k = cntV K) := by show _ = _; omega
            go_wp2
            all_goals (go_meet; exact ⟨by rw [hkn.out], rfl⟩)
      case rest =>
        obtain ⟨rfl, rfl⟩ := hcut
        obtain ⟨n, hn⟩ : ∃ n, n = cntV K := ⟨_, rfl⟩
        rw [← hn]
        have hn3 : n ≤ 3 := by rw [hn]; exact cntV_le K
        have HNK := Lib.hid hn
        have hRl : rest.length = R := by have := HLL.out; omega
        have HRL := Lib.hid hRl
        clear hn hRl
        go_upto_region 21 with fail
        go_cut [152] (fun s wz => s = .bool (cntBad n rest) ∧ wd = wz)
        case first =>
          by_cases e1 : R = n
          · have b1 : ((R : Int) != (n : Int)) = false := by rw [bne_eq_false_iff_eq]; omega
            have HE : Hid (cntBad n rest = false) := by show _ = _; unfold cntBad; rw [decide_eq_false_iff_not]; intro h; exact h.1 (HRL.out.trans e1)
            clear e1
            go_wp2
            all_goals (go_meet; exact ⟨by rw [HE.out], rfl⟩)
          · have b1 : ((R : Int) != (n : Int)) = true := by rw [bne_iff_ne]; omega
            by_cases e2 : R = n + 1
            · obtain rfl : o = 1 := ho (by omega)
              have hy : (rest)[n]? = some (wordAt rest n) := by
                unfold wordAt; rw [List.getD_eq_getElem?_getD, List.getElem?_eq_getElem (by rw [HRL.out]; omega)]; rfl
              have ys := (HWS.out (wordAt rest n) (List.mem_of_getElem? hy)).1
              have cy : wd.cell? ⟨g, 1 + n, none⟩ = some (.string (wordAt rest n)) := by
                rw [Nat.add_comm]; exact HRW.out.cell (j := n + 1) hy
              have b2 : ((R : Int) != (n : Int) + 1) = false := by rw [bne_eq_false_iff_eq]; omega
              have hnR : n < R := by omega
              have hy0 : 0 < (wordAt rest n).size := by omega
              have HE : Hid (cntBad n rest = decide (byteAt (wordAt rest n) 0 ≠ 33)) := by
                show _ = _; unfold cntBad; rw [decide_eq_decide, HRL.out]; exact ⟨fun h => (h.2.resolve_left (by omega)), fun h => ⟨e1, Or.inr h⟩⟩
              have HY := Lib.hid hy
              clear e1 e2 hy
              by_cases e3 : byteAt (wordAt rest n) 0 = 33
              · have b3 : (((wordAt rest n)[0].toNat : Int) != 33) = false := by rw [byteAt_of, bne_eq_false_iff_eq]; exact e3
                have HE2 : Hid (cntBad n rest = false) := by show _ = _; rw [HE.out, decide_eq_false_iff_not]; exact fun h => h e3
                clear e3
                go_wp2
                all_goals (go_meet; exact ⟨by rw [HE2.out], rfl⟩)
              · have b3 : (((wordAt rest n)[0].toNat : Int) != 33) = true := by rw [byteAt_of, bne_iff_ne]; exact e3
                have HE2 : Hid (cntBad n rest = true) := by show _ = _; rw [HE.out, decide_eq_true_eq]; exact e3
                clear e3
                go_wp2
                all_goals (go_meet; exact ⟨by rw [HE2.out], rfl⟩)
            · have b2 : ((R : Int) != (n : Int) + 1) = true := by rw [bne_iff_ne]; omega
              have HE2 : Hid (cntBad n rest = true) := by show _ = _; unfold cntBad; rw [decide_eq_true_eq, HRL.out]; exact ⟨e1, Or.inl e2⟩
              clear e1 e2
              go_wp2
              all_goals (go_meet; exact ⟨by rw [HE2.out], rfl⟩)
        case rest =>
          obtain ⟨rfl, rfl⟩ := hcut
          have HVAL : Hid (insV st w0 rest line = if cntBad n rest then .error true else insEnd n rest (opndsGo line K rest n 0 st (insX x))) := by
            show _ = _
            unfold insV
            rw [if_neg HOP.out, ← HXX.out, HKX.out, ← HNK.out]
          by_cases hbad : cntBad n rest = true
          · have HV2 : Hid (insV st w0 rest line = .error true) := by show _ = _; rw [HVAL.out, if_pos hbad]
            rw [hbad]
            clear hbad
            go_wp2_with (go_at_call 19; refine (afail_any _ _ _ _).mono ?_; rintro e w' ⟨rfl, rfl⟩)
            go_ret
            exact LineDone.text HV2.out (by simp) ((hbel.mono hB).trans (HB5.out.mono (by omega))) (by have := HB5.out.size; omega)
          · have hgood : cntBad n rest = false := by simpa using hbad
            have HV2 : Hid (insV st w0 rest line = insEnd n rest (opndsGo line K rest n 0 st (insX x))) := by show _ = _; rw [HVAL.out, if_neg hbad]
            have hRn : R = n ∨ R = n + 1 := by
              have h := of_decide_eq_false hgood
              rw [HRL.out] at h
              omega
            clear hbad HVAL
            have hRn1 : n ≤ R := by omega
            have hRn2 : R ≤ n + 1 := by omega
            clear hRn
            have HBW : Hid (Below w.heap.size w wd) := hbel.trans (HB5.out.mono (by omega))
            have hszd := HB5.out.size
            have hws2 : B ≤ wd.heap.size := by omega
            rw [hgood]
            clear hgood
            go_wp2_with fail
            go_loopw [157] (fun s157 wr => ∃ (i : Nat) (st' : RdSt) (X' : Ins), i ≤ n ∧ s157 = .int .i64 i ∧ RdAt wr B p bx st' ∧ InsAt wr bx X' ∧ Below B wd wr ∧ Keep wd wr ∧ st'.wants.length ≤ 1000000 + i ∧ Hid (st'.code.length = st.code.length) ∧ Hid (opndsGo line K rest (n - i) i st' X' = opndsGo line K rest n 0 st (insX x))) (fun s _ => 4 - (intOf s).toNat)
            case atStart => exact ⟨0, st, insX x, by omega, rfl, HRD.out, HXD.out, Below.refl _ _, Keep.refl _, by omega, rfl, rfl⟩
            case round =>
              obtain ⟨i, st', X', hi, rfl, hr1, hx1, hb6, hk6, hwl, HCL, HGO⟩ := hrel
              have hszr := hb6.size
              by_cases hin : i < n
              · have hiR : i < R := by omega
                obtain rfl : o = 1 := ho (by omega)
                have hy : rest[i]? = some (wordAt rest i) := by
                  unfold wordAt; rw [List.getD_eq_getElem?_getD, List.getElem?_eq_getElem (by rw [HRL.out]; omega)]; rfl
                have ys := (HWS.out (wordAt rest i) (List.mem_of_getElem? hy)).2
                have cy : wr.cell? ⟨g, 1 + i, none⟩ = some (.string (wordAt rest i)) := by
                  rw [Nat.add_comm]; exact (HRW.out.keep hk6).cell (j := i + 1) hy
                have ck : wr.cell? ⟨bl, i, none⟩ = some (.int .i64 (kindAt K i)) := KRow.cell (hk6 bl _ 78 _ (Or.inr (Or.inr rfl)) HKD.out) i (by omega)
                obtain ⟨kd, hkd⟩ : ∃ kd, kd = kindAt K i := ⟨_, rfl⟩
                obtain ⟨y, hyw⟩ : ∃ y, y = wordAt rest i := ⟨_, rfl⟩
                rw [← hkd] at ck
                rw [← hyw] at cy ys
                have hkb : 1 ≤ kd ∧ kd ≤ 9 := by rw [hkd]; exact kindAt_bd (by rw [← HNK.out]; exact hin) HKX.out
                have HC := Lib.hid (operand_any y ys kd line hkb.1 hkb.2 B p bx st' X' wr.drew hx1 hr1 hbB (by omega))
                have HGS : Hid (opndsGo line K rest (n - i) i st' X' = match opndV st' X' kd y line with | .ok (st2, X2) => opndsGo line K rest (n - (i + 1)) (i + 1) st2 X2 | .error t => .error t) := by
                  show _ = _
                  rw [show n - i = (n - (i + 1)) + 1 from by omega, opndsGo, ← hkd, ← hyw]
                have HR1 := Lib.hid hr1
                have HX1 := Lib.hid hx1
                have HB6 := Lib.hid hb6
                have HK6 := Lib.hid hk6
                have hy2 : (i : Int) < (R : Int) := by omega
                have hy3 : (0 : Int) ≤ (i : Int) := by omega
                have hy4 : (i : Int) < 3 := by omega
                clear hr1 hx1 hb6 hk6 hkb hkd hyw hy
                go_wp2_with fail
                go_still_tail 9, (by kernel_rfl)
                change wpList _ _ _ _ _ wr.drew
                rcases hov : opndV st' X' kd y line with tt | ⟨st2, X2⟩
                · have HC2 : Hid (Calls Tryd.prog 37 #[.pointer (some ⟨p, 0, none⟩), .pointer (some ⟨bx, 0, none⟩), .int .i64 kd, .string y, .int .i64 line] wr.drew (OpndDone (.error tt) B p bx line wr.drew)) := by
                    have h := HC.out; rw [hov] at h; exact h
                  have HFIN : Hid (insV st w0 rest line = .error tt) := by
                    show _ = _; rw [HV2.out, ← HGO.out, HGS.out, hov]; rfl
                  clear hov HC
                  go_wp2_with (go_at_call 37; refine HC2.out.mono ?_; rintro e w' ⟨v, rfl, ⟨b', inner, rfl, hb', hcell', htx⟩, hbel'⟩)
                  go_ret
                  rw [HFIN.out]
                  exact ⟨_, rfl, ⟨_, _, rfl, hb', hcell', htx⟩, (HBW.out.mono hB).trans (HB6.out.trans (below_drew3 hbel'))⟩
                · have HC2 : Hid (Calls Tryd.prog 37 #[.pointer (some ⟨p, 0, none⟩), .pointer (some ⟨bx, 0, none⟩), .int .i64 kd, .string y, .int .i64 line] wr.drew (OpndDone (.ok (st2, X2)) B p bx line wr.drew)) := by
                    have h := HC.out; rw [hov] at h; exact h
                  have HGS2 : Hid (opndsGo line K rest (n - i) i st' X' = opndsGo line K rest (n - (i + 1)) (i + 1) st2 X2) := by
                    show _ = _; rw [HGS.out, hov]
                  have HST := Lib.hid (opndV_st hov)
                  clear hov HC HGS
                  go_wp2_with (go_at_call 37; refine HC2.out.mono ?_; rintro e w' ⟨rfl, hra, hxa, hba, hka⟩)
                  go_roundw
                  case rel => exact ⟨i + 1, st2, X2, by omega, by go_num, hra, hxa, HB6.out.trans (below_drew3 hba), HK6.out.trans hka, by have := HST.out.1; omega, HST.out.2.trans HCL.out, by show _ = _; rw [← HGS2.out]; exact HGO.out⟩
                  case measure => simp [intOf]; omega
              · obtain rfl : n = i := by omega
                have HGO2 : Hid (opndsGo line K rest n 0 st (insX x) = .ok (st', X')) := by
                  have h := HGO.out; rw [Nat.sub_self, opndsGo] at h; exact h.symm
                have HV3 : Hid (insV st w0 rest line = insPush st' (if n < R then markV X' (wordAt rest n) else .ok X')) := by
                  show _ = _; rw [HV2.out, HGO2.out]; unfold insEnd; rw [HRL.out]
                have HR1 := Lib.hid hr1
                have HX1 := Lib.hid hx1
                have HB6 := Lib.hid ((HBW.out.mono hB).trans hb6)
                have HK6 := Lib.hid hk6
                have HKW : Hid (Keep w wd) := (keep_below hbel).trans (keep_below HB5.out)
                clear hr1 hx1 hb6 hk6 HGO HV2 HGO2
                by_cases hRn : n < R
                · obtain rfl : o = 1 := ho (by omega)
                  have hy : rest[n]? = some (wordAt rest n) := by
                    unfold wordAt; rw [List.getD_eq_getElem?_getD, List.getElem?_eq_getElem (by rw [HRL.out]; omega)]; rfl
                  have ys := HWS.out (wordAt rest n) (List.mem_of_getElem? hy)
                  have cy : wr.cell? ⟨g, 1 + n, none⟩ = some (.string (wordAt rest n)) := by
                    rw [Nat.add_comm]; exact (HRW.out.keep HK6.out).cell (j := n + 1) hy
                  have HV4 : Hid (insV st w0 rest line = insPush st' (markV X' (wordAt rest n))) := by show _ = _; rw [HV3.out, if_pos hRn]
                  obtain ⟨y, hyw⟩ : ∃ y, y = wordAt rest n := ⟨_, rfl⟩
                  rw [← hyw] at cy ys
                  have HV5 : Hid (insV st w0 rest line = insPush st' (markV X' y)) := by show _ = _; rw [hyw]; exact HV4.out
                  clear hyw hy HV3 HV4
                  have hy2 : (n : Int) < (R : Int) := by omega
                  rcases hmv : markV X' y with tt | X2
                  · have HC := Lib.hid (mark_call y ys.2 ys.1 line bx X' _ hmv wr HX1.out)
                    have HFIN : Hid (insV st w0 rest line = .error tt) := by show _ = _; rw [HV5.out, hmv]; rfl
                    clear hmv ys
                    go_wp2_with (go_at_call 38; refine HC.out.mono ?_; rintro e w' ⟨v, rfl, ⟨b', inner, rfl, hb', hcell', htx⟩, hgr'⟩)
                    go_ret
                    rw [HFIN.out]
                    exact ⟨_, rfl, ⟨_, _, rfl, by omega, hcell', htx⟩, HB6.out.trans (below_ins hbB HX1.out.lt hgr')⟩
                  · have HC := Lib.hid (mark_call y ys.2 ys.1 line bx X' _ hmv wr HX1.out)
                    have HFIN : Hid (insV st w0 rest line = .ok { st' with code := st'.code ++ [X2] }) := by show _ = _; rw [HV5.out, hmv]; rfl
                    clear hmv ys
                    go_wp2_with (first | (go_at_call 38; refine HC.out.mono ?_; rintro e w' ⟨rfl, hx2, hgr'⟩) | fail)
                    have HX2 := Lib.hid hx2
                    have HGR := Lib.hid hgr'
                    have hszw := hgr'.size
                    clear hx2 hgr'
                    have RP := (HR1.out.grown HX1.out HGR.out).self
                    obtain ⟨vl, vb, vn, vw, bm, hp, hBp, hll, hne, hbb, hnn, hww, hbm, hm⟩ := RP
                    have q0 : w'.cell? ⟨p, 0, none⟩ = some vl := rowCell hp
                    have g0 : w'.frozen? ⟨p, 0, none⟩ = false := rowFree hp
                    have x0 : w'.cell? ⟨bx, 0, none⟩ = some (.int .i64 X2.op) := (HX2.out).cell 0
                    have x1 : w'.cell? ⟨bx, 1, none⟩ = some (.int .i64 X2.a) := (HX2.out).cell 1
                    have x2 : w'.cell? ⟨bx, 2, none⟩ = some (.int .i64 X2.b) := (HX2.out).cell 2
                    have x3 : w'.cell? ⟨bx, 3, none⟩ = some (.int .i64 X2.c) := (HX2.out).cell 3
                    have x4 : w'.cell? ⟨bx, 4, none⟩ = some (.int .u64 X2.v) := (HX2.out).cell 4
                    have x5 : w'.cell? ⟨bx, 5, none⟩ = some (.int .i64 X2.m) := (HX2.out).cell 5
                    have x6 : w'.cell? ⟨bx, 6, none⟩ = some (.int .i64 X2.wh) := (HX2.out).cell 6
                    have hplt : p < w'.heap.size := (Array.getElem?_eq_some_iff.1 hp).1
                    have hblt : bx < w'.heap.size := (HX2.out).lt
                    have hwp : vl.ownBlock ≠ some p := row_type hll hp (by decide)
                    obtain ⟨i0, hi0, hz0, hz1, hz2⟩ := info_parts info37
                    have HI0 := Lib.hid hi0
                    have HPp := Lib.hid hp
                    have HNe := Lib.hid hne
                    have HBb := Lib.hid hbb
                    have HNn := Lib.hid hnn
                    have HWw := Lib.hid hww
                    have HM3 := Lib.hid hm
                    have hcl : st'.code.length ≤ 1048576 := by have := HCL.out; omega
                    have hBW : B ≤ w'.heap.size := by omega
                    clear hi0 hp hne hbb hnn hww hm
                    go_wp2_with fail
                    go_region_law (first | (refine step_append_lies _ (by rfl) _ _ _ (by rfl) B 37 i0 _ 7 56 Tryd.underlying25 HI0.out hz0 hz1 hz2 rfl (by omega) vl st'.code.length (flatIns st'.code) (by rfl) ((hll.alloc _).drew) ⟨w'.heap.size, 0, none⟩ 1 1 [.int .i64 X2.op, .int .i64 X2.a, .int .i64 X2.b, .int .i64 X2.c, .int .u64 X2.v, .int .i64 X2.m, .int .i64 X2.wh] (by rfl) (by rfl) (World.news_of_block (cs := #[.int .i64 X2.op, .int .i64 X2.a, .int .i64 X2.b, .int .i64 X2.c, .int .u64 X2.v, .int .i64 X2.m, .int .i64 X2.wh]) (t := 37) (fr := (0, 0)) (heap_alloc_new w' _)) (by simp [Value.oneCell']) (by omega) (by unfold maxLen; omega) (by omega) (by simp; omega) (w'.heap.size + 1) (by simp) ?_; intro gg cap4 w9 hown9 hgrow hat hlt; have r4 : w9.cell? ⟨p, 0, none⟩ = some vl := (hgrow.cell_far ⟨p, 0, none⟩ (by simp; omega) (Ne.symm hwp)).trans (by simp [go_sem, World.cell?_alloc_past, hplt, q0]); have r5 : w9.frozen? ⟨p, 0, none⟩ = false := (hgrow.frozen_far ⟨p, 0, none⟩ (by simp; omega) (Ne.symm hwp)).trans (by simp [go_sem, World.frozen?_alloc_past, hplt, g0])))
                    all_goals
                      go_wp2
                      go_ret
                      have hp9 : w9.heap[p]? = some (.cells #[vl, vb, vn, .map (some bm), vw] 60 (0, 0)) := by
                        rw [(grown_of_alloc (grown_of_drew hgrow)).block p hplt (Ne.symm hwp)]; exact HPp.out
                      have R9 := rd_code (y := X2) HPp.out hBp hll HNe.out HBb.out HNn.out HWw.out hbm HM3.out (by simpa [insCells] using hown9) (grown_of_alloc (grown_of_drew hgrow)) (row_type hown9 hp9 (by decide))
                      rw [HFIN.out]
                      exact ⟨rfl, RdP.whole (st := { st' with code := st'.code ++ [X2] }) R9.1, (HB6.out.trans (below_ins hbB HX1.out.lt HGR.out)).trans R9.2.1, ((HKW.out.trans HK6.out).trans (keep_ins HX1.out HGR.out)).trans R9.2.2⟩
                · have HFIN : Hid (insV st w0 rest line = .ok { st' with code := st'.code ++ [X'] }) := by show _ = _; rw [HV3.out, if_neg hRn]; rfl
                  clear HV3
                  have RP := (HR1.out).self
                  obtain ⟨vl, vb, vn, vw, bm, hp, hBp, hll, hne, hbb, hnn, hww, hbm, hm⟩ := RP
                  have q0 : wr.cell? ⟨p, 0, none⟩ = some vl := rowCell hp
                  have g0 : wr.frozen? ⟨p, 0, none⟩ = false := rowFree hp
                  have x0 : wr.cell? ⟨bx, 0, none⟩ = some (.int .i64 X'.op) := (HX1.out).cell 0
                  have x1 : wr.cell? ⟨bx, 1, none⟩ = some (.int .i64 X'.a) := (HX1.out).cell 1
                  have x2 : wr.cell? ⟨bx, 2, none⟩ = some (.int .i64 X'.b) := (HX1.out).cell 2
                  have x3 : wr.cell? ⟨bx, 3, none⟩ = some (.int .i64 X'.c) := (HX1.out).cell 3
                  have x4 : wr.cell? ⟨bx, 4, none⟩ = some (.int .u64 X'.v) := (HX1.out).cell 4
                  have x5 : wr.cell? ⟨bx, 5, none⟩ = some (.int .i64 X'.m) := (HX1.out).cell 5
                  have x6 : wr.cell? ⟨bx, 6, none⟩ = some (.int .i64 X'.wh) := (HX1.out).cell 6
                  have hplt : p < wr.heap.size := (Array.getElem?_eq_some_iff.1 hp).1
                  have hblt : bx < wr.heap.size := (HX1.out).lt
                  have hwp : vl.ownBlock ≠ some p := row_type hll hp (by decide)
                  obtain ⟨i0, hi0, hz0, hz1, hz2⟩ := info_parts info37
                  have HI0 := Lib.hid hi0
                  have HPp := Lib.hid hp
                  have HNe := Lib.hid hne
                  have HBb := Lib.hid hbb
                  have HNn := Lib.hid hnn
                  have HWw := Lib.hid hww
                  have HM3 := Lib.hid hm
                  have hcl : st'.code.length ≤ 1048576 := by have := HCL.out; omega
                  have hBW : B ≤ wr.heap.size := by omega
                  clear hi0 hp hne hbb hnn hww hm
                  go_wp2_with fail
                  go_region_law (first | (refine step_append_lies _ (by rfl) _ _ _ (by rfl) B 37 i0 _ 7 56 Tryd.underlying25 HI0.out hz0 hz1 hz2 rfl (by omega) vl st'.code.length (flatIns st'.code) (by rfl) ((hll.alloc _).drew) ⟨wr.heap.size, 0, none⟩ 1 1 [.int .i64 X'.op, .int .i64 X'.a, .int .i64 X'.b, .int .i64 X'.c, .int .u64 X'.v, .int .i64 X'.m, .int .i64 X'.wh] (by rfl) (by rfl) (World.news_of_block (cs := #[.int .i64 X'.op, .int .i64 X'.a, .int .i64 X'.b, .int .i64 X'.c, .int .u64 X'.v, .int .i64 X'.m, .int .i64 X'.wh]) (t := 37) (fr := (0, 0)) (heap_alloc_new wr _)) (by simp [Value.oneCell']) (by omega) (by unfold maxLen; omega) (by omega) (by simp; omega) (wr.heap.size + 1) (by simp) ?_; intro gg cap4 w9 hown9 hgrow hat hlt; have r4 : w9.cell? ⟨p, 0, none⟩ = some vl := (hgrow.cell_far ⟨p, 0, none⟩ (by simp; omega) (Ne.symm hwp)).trans (by simp [go_sem, World.cell?_alloc_past, hplt, q0]); have r5 : w9.frozen? ⟨p, 0, none⟩ = false := (hgrow.frozen_far ⟨p, 0, none⟩ (by simp; omega) (Ne.symm hwp)).trans (by simp [go_sem, World.frozen?_alloc_past, hplt, g0])))
                  all_goals
                    go_wp2
                    go_ret
                    have hp9 : w9.heap[p]? = some (.cells #[vl, vb, vn, .map (some bm), vw] 60 (0, 0)) := by
                      rw [(grown_of_alloc (grown_of_drew hgrow)).block p hplt (Ne.symm hwp)]; exact HPp.out
                    have R9 := rd_code (y := X') HPp.out hBp hll HNe.out HBb.out HNn.out HWw.out hbm HM3.out (by simpa [insCells] using hown9) (grown_of_alloc (grown_of_drew hgrow)) (row_type hown9 hp9 (by decide))
                    rw [HFIN.out]
                    exact ⟨rfl, RdP.whole (st := { st' with code := st'.code ++ [X'] }) R9.1, HB6.out.trans R9.2.1, (HKW.out.trans HK6.out).trans R9.2.2⟩
end Go.Proofs.YtnoejikcdigceaaDoor
