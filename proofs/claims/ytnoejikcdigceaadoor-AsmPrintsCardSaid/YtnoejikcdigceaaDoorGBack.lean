/- What a printed operand, mark and name reads as: plain. A printed instruction's line reads as the instruction: plain. A printed instruction's line reads as the instruction: the whole line. A printed instruction's line reads as the instruction: name, mark, the line. A printed code reads as the code, with the labels that its jumps call for: plain. A printed code reads as the code: asm.Parse's value. -/
import Derived.Test.YtnoejikcdigceaaDoorGPrint
import Derived.Test.YtnoejikcdigceaaDoorNamesP
set_option linter.unusedVariables false
set_option linter.unusedSimpArgs false
namespace Go.Proofs.YtnoejikcdigceaaDoor
open Go.RowKit
def isDig (c : UInt8) : Prop := 48 ≤ (c.toNat : Int) ∧ (c.toNat : Int) ≤ 57
def valL (l : List UInt8) (v : Nat) : Nat := l.foldl (fun v c => 10 * v + (c.toNat - 48)) v
theorem dig_toNat (n : Nat) : (UInt8.ofNat (48 + n % 10)).toNat = 48 + n % 10 := by
  have : n % 10 < 10 := Nat.mod_lt _ (by omega)
  simp; omega
theorem decGo_spec : ∀ (f n : Nat) (acc : List UInt8), n < 10 ^ (f + 1) → ∃ D, decGo (f + 1) n acc = D ++ acc ∧ (∀ c ∈ D, isDig c) ∧ D ≠ [] ∧ D.length ≤ f + 1 ∧ valL D 0 = n
  | 0, n, acc, h => by
    have h9 : n / 10 = 0 := by omega
    refine ⟨[UInt8.ofNat (48 + n % 10)], ?_, ?_, by simp, by simp, ?_⟩
    · unfold decGo; rw [if_pos h9]; rfl
    · intro c hc; obtain rfl := List.mem_singleton.1 hc; unfold isDig; rw [dig_toNat]; omega
    · unfold valL; simp only [List.foldl_cons, List.foldl_nil, dig_toNat]; omega
  | f + 1, n, acc, h => by
    by_cases h9 : n / 10 = 0
    · refine ⟨[UInt8.ofNat (48 + n % 10)], ?_, ?_, by simp, by simp, ?_⟩
      · unfold decGo; rw [if_pos h9]; rfl
      · intro c hc; obtain rfl := List.mem_singleton.1 hc; unfold isDig; rw [dig_toNat]; omega
      · unfold valL; simp only [List.foldl_cons, List.foldl_nil, dig_toNat]; omega
    · obtain ⟨D, e, hd, hne, hl, hv⟩ := decGo_spec f (n / 10) (UInt8.ofNat (48 + n % 10) :: acc) (by rw [Nat.pow_succ] at h; omega)
      refine ⟨D ++ [UInt8.ofNat (48 + n % 10)], ?_, ?_, by simp, by simp; omega, ?_⟩
      · unfold decGo; rw [if_neg h9, e]; simp
      · intro c hc
        rcases List.mem_append.1 hc with hc | hc
        · exact hd c hc
        · obtain rfl := List.mem_singleton.1 hc; unfold isDig; rw [dig_toNat]; omega
      · unfold valL at hv ⊢; rw [List.foldl_append, hv]; simp only [List.foldl_cons, List.foldl_nil, dig_toNat]; omega
theorem decL_spec (n : Nat) (h : n ≤ 18446744073709551615) : (∀ c ∈ decL n, isDig c) ∧ decL n ≠ [] ∧ (decL n).length ≤ 20 ∧ valL (decL n) 0 = n := by
  obtain ⟨D, e, h1, h2, h3, h4⟩ := decGo_spec 19 n [] (by omega)
  rw [List.append_nil] at e
  unfold decL
  rw [e]
  exact ⟨h1, h2, h3, h4⟩
theorem decL_inj {a b : Nat} (ha : a ≤ 18446744073709551615) (hb : b ≤ 18446744073709551615) (h : decL a = decL b) : a = b := by
  rw [← (decL_spec a ha).2.2.2, ← (decL_spec b hb).2.2.2, h]
theorem dig_ne {c : UInt8} (h : isDig c) {x : UInt8} (hx : x.toNat < 48 ∨ 57 < x.toNat) : c ≠ x := by
  rintro rfl; unfold isDig at h; omega
theorem decL_not (n : Nat) (h : n ≤ 18446744073709551615) {x : UInt8} (hx : x.toNat < 48 ∨ 57 < x.toNat) : x ∉ decL n := fun hm => dig_ne ((decL_spec n h).1 x hm) hx rfl
theorem decL_plain (n : Nat) (h : n ≤ 18446744073709551615) : PlainW (decL n) :=
  ⟨decL_not n h (by decide), decL_not n h (by decide), decL_not n h (by decide), (decL_spec n h).2.1⟩
theorem valL_ge : ∀ (l : List UInt8) (v : Nat), v ≤ valL l v
  | [], v => Nat.le_refl _
  | c :: l, v => by
    have := valL_ge l (10 * v + (c.toNat - 48))
    unfold valL at this ⊢
    simp only [List.foldl_cons]; omega
theorem digV_dig {c : UInt8} (h : isDig c) : digV c.toNat = (c.toNat : Int) - 48 := by
  unfold isDig at h
  unfold digV
  rw [if_pos ⟨h.1, h.2⟩]
theorem wGo_dec : ∀ (l : List UInt8) (j v : Nat), (∀ c ∈ l, isDig c) → j + l.length ≤ 20 → valL l v ≤ 18446744073709551615 → wGo 10 20 l j v = .ok (valL l v : Nat)
  | [], j, v, _, _, _ => rfl
  | c :: l, j, v, hd, hj, hv => by
    have hc := hd c (by simp)
    have e : valL (c :: l) v = valL l (10 * v + (c.toNat - 48)) := rfl
    rw [e] at hv ⊢
    have hg := valL_ge l (10 * v + (c.toNat - 48))
    have hc2 := hc
    unfold isDig at hc2
    simp only [List.length_cons] at hj
    unfold wGo
    rw [digV_dig hc, if_pos ⟨by omega, by omega, by unfold topW; omega⟩]
    have e1 : (j : Int) + 1 = ((j + 1 : Nat) : Int) := by omega
    have e2 : (v : Int) * 10 + ((c.toNat : Int) - 48) = ((10 * v + (c.toNat - 48) : Nat) : Int) := by omega
    rw [e1, e2]
    exact wGo_dec l (j + 1) _ (fun x hx => hd x (by simp [hx])) (by omega) hv
theorem byteAt_ofL (l : List UInt8) (i : Nat) : byteAt (ofL l) i = ((l.getD i 0).toNat : Int) := by unfold byteAt; rw [ofL_data]
theorem wparse_dec (n : Nat) (h : n ≤ 18446744073709551615) : wparse (ofL (decL n)) = .ok (n : Int) := by
  obtain ⟨h1, h2, h3, h4⟩ := decL_spec n h
  have hh : wHex (ofL (decL n)) = false := by
    unfold wHex
    apply decide_eq_false
    rintro ⟨a, b, c⟩
    rw [byteAt_ofL] at c
    rw [ofL_size] at a
    have hm : (decL n).getD 1 0 ∈ decL n := by
      rw [List.getD_eq_getElem?_getD, List.getElem?_eq_getElem (by omega)]
      exact List.getElem_mem _
    have := h1 _ hm
    unfold isDig at this; omega
  unfold wparse
  rw [hh, ofL_size, ofL_data, if_neg (by simp), if_neg (by intro e; exact h2 (List.eq_nil_of_length_eq_zero e))]
  have := wGo_dec (decL n) 0 0 h1 (by omega) (by rw [h4]; exact h)
  rw [h4] at this
  rw [show ((0 : Nat) : Int) = 0 from rfl] at this
  rw [this]; rfl
theorem regV_dec (n : Nat) (h : n ≤ 18446744073709551615) : (regV (ofL (decL n))).2 = false := by
  have hb : regBad (ofL (decL n)) = true := by
    unfold regBad
    apply decide_eq_true
    right; right; left
    rw [byteAt_ofL]
    obtain ⟨h1, h2, h3, h4⟩ := decL_spec n h
    intro c
    cases hl : decL n with
    | nil => exact h2 hl
    | cons x l =>
      have := h1 x (by rw [hl]; simp)
      rw [hl] at c
      simp at c
      unfold isDig at this; omega
  unfold regV
  rw [if_pos hb]
def regL (n : Nat) : List UInt8 := 114 :: decL n
theorem regS_eq (n : Int) : regS n = ofL (regL n.toNat) := by
  apply ByteArray.ext; apply Array.ext'; unfold regS regL decB; rw [ofL_data]; simp
theorem reg_rt' : ∀ n : Fin 32, regV (ofL (regL n.val)) = ((n.val : Int), true) := by decide +kernel
theorem reg_rt (n : Int) (h0 : 0 ≤ n) (h1 : n ≤ 31) : regV (ofL (regL n.toNat)) = (n, true) := by
  have := reg_rt' ⟨n.toNat, by omega⟩
  simp only at this
  rw [this]
  have : ((n.toNat : Nat) : Int) = n := by omega
  rw [this]
theorem regL_not (n : Nat) (h : n ≤ 18446744073709551615) {x : UInt8} (hx : x.toNat < 48 ∨ 57 < x.toNat) (h2 : x ≠ 114) : x ∉ regL n := by
  unfold regL
  intro hm
  rcases List.mem_cons.1 hm with e | hm
  · exact h2 e
  · exact decL_not n h hx hm
theorem regL_plain (n : Nat) (h : n ≤ 18446744073709551615) : PlainW (regL n) :=
  ⟨regL_not n h (by decide) (by decide), regL_not n h (by decide) (by decide), regL_not n h (by decide) (by decide), by unfold regL; simp⟩
def goL (n : Nat) : List UInt8 := 112 :: decL n
theorem goL_plain (n : Nat) (h : n ≤ 18446744073709551615) : PlainW (goL n) := by
  have h2 : ∀ x : UInt8, (x.toNat < 48 ∨ 57 < x.toNat) → x ≠ 112 → x ∉ goL n := fun x hx h2 hm => by
    rcases List.mem_cons.1 hm with e | hm
    · exact h2 e
    · exact decL_not n h hx hm
  exact ⟨h2 _ (by decide) (by decide), h2 _ (by decide) (by decide), h2 _ (by decide) (by decide), by unfold goL; simp⟩
theorem goL_clear (n : Nat) (h : n ≤ 18446744073709551615) : ClearW (goL n) := by
  obtain ⟨a, b, c, d⟩ := goL_plain n h
  refine ⟨a, b, c, fun hm => ?_⟩
  rcases List.mem_cons.1 hm with e | hm
  · cases e
  · exact decL_not n h (by decide) hm
theorem decL_short (n : Nat) (h : n < 2048) : (decL n).length ≤ 4 := by
  have : ∀ n : Fin 2048, (decL n.val).length ≤ 4 := by decide +kernel
  exact this ⟨n, h⟩
theorem nameV_go (n : Nat) (h : n < 2048) : nameV (ofL (goL n)) = true := by
  obtain ⟨h1, h2, h3, h4⟩ := decL_spec n (by omega)
  have h5 := decL_short n h
  have hb : nameBad (ofL (goL n)) = false := by
    unfold nameBad
    apply decide_eq_false
    rw [ofL_size, byteAt_ofL]
    unfold goL
    simp
    omega
  have hr : (regV (ofL (goL n))).2 = false := by
    unfold regV
    rw [if_pos]
    unfold regBad
    apply decide_eq_true
    right; right; left
    rw [byteAt_ofL]; unfold goL; simp
  have ha : (ofL (goL n)).data.toList.all nameCh = true := by
    rw [ofL_data, List.all_eq_true]
    intro c hc
    unfold nameCh
    apply decide_eq_true
    rcases List.mem_cons.1 hc with rfl | hc
    · left; decide
    · right; exact h1 c hc
  unfold nameV
  rw [hb, ha, hr]; rfl
theorem nameV_dec (n : Nat) (h : n ≤ 18446744073709551615) : nameV (ofL (decL n)) = false := by
  obtain ⟨h1, h2, h3, h4⟩ := decL_spec n h
  unfold nameV
  rw [if_pos]
  unfold nameBad
  apply decide_eq_true
  right; right; left
  rw [byteAt_ofL]
  cases hl : decL n with
  | nil => exact absurd hl h2
  | cons x l =>
    have := h1 x (by rw [hl]; simp)
    unfold isDig at this; simp; omega
theorem idx43_none : ∀ l : List UInt8, (43 : UInt8) ∉ l → Lib.indexByte l 43 = -1
  | [], _ => rfl
  | c :: l, h => by
    have h1 : ¬ c = 43 := fun e => h (by simp [e])
    have ih := idx43_none l (fun e => h (by simp [e]))
    unfold Lib.indexByte
    simp [h1, ih]
theorem idx43_at : ∀ (l t : List UInt8), (43 : UInt8) ∉ l → Lib.indexByte (l ++ 43 :: t) 43 = (l.length : Int)
  | [], t, _ => by simp [Lib.indexByte]
  | c :: l, t, h => by
    have h1 : ¬ c = 43 := fun e => h (by simp [e])
    have ih := idx43_at l t (fun e => h (by simp [e]))
    show Lib.indexByte (c :: (l ++ 43 :: t)) 43 = _
    unfold Lib.indexByte
    rw [ih]
    have h2 : ¬ (l.length : Int) = -1 := by omega
    simp [h1, h2]
theorem cell_ok (X : Ins) (l : List UInt8) : cellV X (ofL (91 :: (l ++ [93]))) = cellIn X (ofL l) := by
  have hs : (ofL (91 :: (l ++ [93]))).size = l.length + 2 := by rw [ofL_size]; simp
  have hb : cellBad (ofL (91 :: (l ++ [93]))) = false := by
    unfold cellBad
    apply decide_eq_false
    rw [hs, byteAt_ofL, byteAt_ofL]
    have : (91 :: (l ++ [93])).getD (l.length + 2 - 1) 0 = (93 : UInt8) := by
      rw [show l.length + 2 - 1 = l.length + 1 from by omega]; simp
    rw [this]
    simp
    omega
  unfold cellV
  rw [hb, if_neg (by simp), hs, extract_ofL, ofL_data]
  congr 2
  simp
theorem cell_num (X : Ins) (n : Nat) (h : n ≤ 18446744073709551615) : cellV X (ofL (91 :: (decL n ++ [93]))) = .ok { X with b := -1, v := n } := by
  rw [cell_ok]
  unfold cellIn plusV
  rw [regV_dec n h, if_neg (by simp), ofL_data, idx43_none _ (decL_not n h (by decide)), if_neg (by omega), wparse_dec n h]
  rfl
theorem cell_reg (X : Ins) (b : Int) (h0 : 0 ≤ b) (h1 : b ≤ 31) : cellV X (ofL (91 :: (regL b.toNat ++ [93]))) = .ok { X with b := b } := by
  rw [cell_ok]
  unfold cellIn
  rw [reg_rt b h0 h1, if_pos rfl]
theorem cell_both (X : Ins) (b : Int) (h0 : 0 ≤ b) (h1 : b ≤ 31) (n : Nat) (h : n ≤ 18446744073709551615) : cellV X (ofL (91 :: (regL b.toNat ++ 43 :: decL n ++ [93]))) = .ok { X with b := b, v := n } := by
  rw [cell_ok]
  have hr : (regV (ofL (regL b.toNat ++ 43 :: decL n))).2 = false := by
    unfold regV
    rw [if_pos]
    unfold regBad
    apply decide_eq_true
    right; left
    rw [ofL_size]
    have a1 := (decL_spec n h).2.1
    have a2 := (decL_spec b.toNat (by omega)).2.1
    have b1 : 0 < (decL n).length := List.length_pos_iff.2 a1
    have b2 : 0 < (decL b.toNat).length := List.length_pos_iff.2 a2
    unfold regL
    simp
    omega
  have hp : plusV (ofL (regL b.toNat ++ 43 :: decL n)) = ((regL b.toNat).length : Int) := by
    unfold plusV; rw [ofL_data]; exact idx43_at _ _ (regL_not _ (by omega) (by decide) (by decide))
  unfold cellIn
  rw [hr, if_neg (by simp), hp, if_pos (by omega), extract_ofL, extract_ofL, ofL_data, ofL_size]
  have e1 : List.take (((regL b.toNat).length : Int).toNat - 0) (List.drop 0 (regL b.toNat ++ 43 :: decL n)) = regL b.toNat := by simp
  have e2 : List.take ((regL b.toNat ++ 43 :: decL n).length - (((regL b.toNat).length : Int).toNat + 1)) (List.drop (((regL b.toNat).length : Int).toNat + 1) (regL b.toNat ++ 43 :: decL n)) = decL n := by
    rw [Int.toNat_natCast, ← List.drop_drop, List.drop_left]
    simp
    rw [List.take_of_length_le (by omega)]
  rw [e1, e2, reg_rt b h0 h1, if_pos rfl, wparse_dec n h]
  rfl
end Go.Proofs.YtnoejikcdigceaaDoor

set_option linter.unusedVariables false
set_option linter.unusedSimpArgs false
namespace Go.Proofs.YtnoejikcdigceaaDoor
open Go.RowKit
def shownL (X : Ins) (kd : Int) : List UInt8 := (shownV X kd).data.toList
theorem shownL_of (X : Ins) (kd : Int) : ofL (shownL X kd) = shownV X kd := data_ofL _
def fill (X0 X : Ins) (kd : Int) : Ins :=
  if kd = 1 then { X0 with a := X.a } else if kd = 2 then { X0 with b := X.b } else if kd = 3 then { X0 with c := X.c }
  else if kd = 4 then { X0 with c := X.c, v := X.v } else if kd = 5 ∨ kd = 6 then { X0 with b := X.b, v := X.v } else if kd = 8 then X0 else { X0 with v := X.v }
def stW (st : RdSt) (X : Ins) (kd line : Int) : RdSt := if kd = 8 then { st with wants := st.wants ++ [((st.code.length : Int), line, ofL (goL X.v.toNat))] } else st
theorem shown1 (X : Ins) : shownV X 1 = ofL (regL X.a.toNat) := regS_eq _
theorem shown2 (X : Ins) : shownV X 2 = ofL (regL X.b.toNat) := regS_eq _
theorem shown3 (X : Ins) : shownV X 3 = ofL (regL X.c.toNat) := regS_eq _
theorem shown4n (X : Ins) (h : X.c = -1) : shownV X 4 = ofL (decL X.v.toNat) := by
  show (if X.c = -1 then decB X.v.toNat else regS X.c) = _; rw [if_pos h]; rfl
theorem shown4r (X : Ins) (h : ¬ X.c = -1) : shownV X 4 = ofL (regL X.c.toNat) := by
  show (if X.c = -1 then decB X.v.toNat else regS X.c) = _; rw [if_neg h]; exact regS_eq _
theorem shown5n (X : Ins) (h : X.b = -1) : shownV X 5 = ofL (decL X.v.toNat) := by
  show (if X.b = -1 then decB X.v.toNat else regS X.b) = _; rw [if_pos h]; rfl
theorem shown5r (X : Ins) (h : ¬ X.b = -1) : shownV X 5 = ofL (regL X.b.toNat) := by
  show (if X.b = -1 then decB X.v.toNat else regS X.b) = _; rw [if_neg h]; exact regS_eq _
theorem shown6n (X : Ins) (h : X.b = -1) : shownV X 6 = ofL (91 :: (decL X.v.toNat ++ [93])) := by
  show (if X.b = -1 then _ else _) = _
  rw [if_pos h]; apply ByteArray.ext; apply Array.ext'; rw [ofL_data]; unfold decB; simp
theorem shown6z (X : Ins) (h : ¬ X.b = -1) (hv : X.v = 0) : shownV X 6 = ofL (91 :: (regL X.b.toNat ++ [93])) := by
  show (if X.b = -1 then _ else if X.v = 0 then _ else _) = _
  rw [if_neg h, if_pos hv]; apply ByteArray.ext; apply Array.ext'; rw [ofL_data, regS_eq]; unfold ofL; simp
theorem shown6b (X : Ins) (h : ¬ X.b = -1) (hv : ¬ X.v = 0) : shownV X 6 = ofL (91 :: (regL X.b.toNat ++ 43 :: decL X.v.toNat ++ [93])) := by
  show (if X.b = -1 then _ else if X.v = 0 then _ else _) = _
  rw [if_neg h, if_neg hv]; apply ByteArray.ext; apply Array.ext'; rw [ofL_data, regS_eq]; unfold ofL decB; simp
theorem shown8 (X : Ins) : shownV X 8 = ofL (goL X.v.toNat) := by
  show ByteArray.mk #[112] ++ decB X.v.toNat = _
  apply ByteArray.ext; apply Array.ext'; rw [ofL_data]; unfold decB goL; simp
theorem shown7 (X : Ins) : shownV X 7 = ofL (decL X.v.toNat) := rfl
theorem shown9 (X : Ins) : shownV X 9 = ofL (decL X.v.toNat) := rfl
theorem opndV_ins (st : RdSt) (X0 : Ins) (kd line : Int) (s : ByteArray) (h : kd < 8) : opndV st X0 kd s line = withSt st (opndX X0 kd s) := by
  unfold opndV; rw [if_neg (fun h2 => by omega), if_neg (by omega)]
theorem opndX_reg (X0 : Ins) (kd n : Int) (h : kd ≤ 5) (h0 : 0 ≤ n) (h1 : n ≤ 31) : opndX X0 kd (ofL (regL n.toNat)) = .ok (setReg X0 kd n) := by
  unfold opndX
  rw [if_neg (by omega), reg_rt n h0 h1, if_pos ⟨h, rfl⟩]
theorem opndX_num (X0 : Ins) (kd n : Int) (h : 3 < kd) (h6 : kd ≠ 6) (h0 : 0 ≤ n) (h1 : n ≤ 18446744073709551615) :
    opndX X0 kd (ofL (decL n.toNat)) = .ok { (if kd = 5 then { X0 with b := -1 } else if kd = 4 then { X0 with c := -1 } else X0) with v := n } := by
  unfold opndX
  rw [if_neg h6, if_neg (fun h2 => by rw [regV_dec _ (by omega)] at h2; cases h2.2), if_neg (by omega), wparse_dec _ (by omega)]
  have : ((n.toNat : Nat) : Int) = n := by omega
  rw [this]; rfl
theorem opnd_rt (st : RdSt) (X0 X : Ins) (kd line : Int) (hk : 1 ≤ kd ∧ kd ≤ 9) (hs : ShowOk X kd) (hv : kd = 4 ∨ kd = 5 ∨ kd = 6 → X0.v = 0) (h4 : kd = 4 → X.c = -1 ∨ X.v = 0) (h5 : kd = 5 → X.b = -1 ∨ X.v = 0) (h8 : kd = 8 → X.v < 2048) :
    opndV st X0 kd (shownV X kd) line = .ok (stW st X kd line, fill X0 X kd) := by
  have hc : kd = 1 ∨ kd = 2 ∨ kd = 3 ∨ kd = 4 ∨ kd = 5 ∨ kd = 6 ∨ kd = 7 ∨ kd = 8 ∨ kd = 9 := by omega
  have hvv : ((X.v.toNat : Nat) : Int) = X.v := by have := hs.v; omega
  rcases hc with rfl | rfl | rfl | rfl | rfl | rfl | rfl | rfl | rfl
  · obtain ⟨a0, a1⟩ := hs.a rfl
    rw [opndV_ins _ _ _ _ _ (by decide), shown1, opndX_reg _ _ _ (by decide) a0 a1]; rfl
  · obtain ⟨a0, a1⟩ := hs.b (.inl rfl)
    rw [opndV_ins _ _ _ _ _ (by decide), shown2, opndX_reg _ _ _ (by decide) a0 a1]; rfl
  · obtain ⟨a0, a1⟩ := hs.c (.inl rfl)
    rw [opndV_ins _ _ _ _ _ (by decide), shown3, opndX_reg _ _ _ (by decide) a0 a1]; rfl
  · rw [opndV_ins _ _ _ _ _ (by decide)]
    by_cases h : X.c = -1
    · rw [shown4n _ h, opndX_num _ _ _ (by decide) (by decide) hs.v.1 hs.v.2]
      show Except.ok (st, { X0 with c := -1, v := X.v }) = .ok (st, { X0 with c := X.c, v := X.v })
      rw [h]
    · obtain ⟨a0, a1⟩ := hs.c (.inr ⟨rfl, h⟩)
      rw [shown4r _ h, opndX_reg _ _ _ (by decide) a0 a1]
      have hv0 : X.v = 0 := by rcases h4 rfl with h' | h'; exact absurd h' h; exact h'
      have hx0 := hv (by simp)
      show Except.ok (st, { X0 with c := X.c }) = .ok (st, { X0 with c := X.c, v := X.v })
      rw [hv0, ← hx0]
  · rw [opndV_ins _ _ _ _ _ (by decide)]
    by_cases h : X.b = -1
    · rw [shown5n _ h, opndX_num _ _ _ (by decide) (by decide) hs.v.1 hs.v.2]
      show Except.ok (st, { X0 with b := -1, v := X.v }) = .ok (st, { X0 with b := X.b, v := X.v })
      rw [h]
    · obtain ⟨a0, a1⟩ := hs.b (.inr (.inl ⟨rfl, h⟩))
      rw [shown5r _ h, opndX_reg _ _ _ (by decide) a0 a1]
      have hv0 : X.v = 0 := by rcases h5 rfl with h' | h'; exact absurd h' h; exact h'
      have hx0 := hv (by simp)
      show Except.ok (st, { X0 with b := X.b }) = .ok (st, { X0 with b := X.b, v := X.v })
      rw [hv0, ← hx0]
  · rw [opndV_ins _ _ _ _ _ (by decide)]
    have e6 : ∀ s, opndX X0 6 s = cellV X0 s := fun s => by unfold opndX; rw [if_pos rfl]
    rw [e6]
    by_cases h : X.b = -1
    · rw [shown6n _ h, cell_num _ _ (by have := hs.v; omega), hvv]
      show Except.ok (st, { X0 with b := -1, v := X.v }) = .ok (st, { X0 with b := X.b, v := X.v })
      rw [h]
    · obtain ⟨a0, a1⟩ := hs.b (.inr (.inr ⟨rfl, h⟩))
      have hx0 := hv (by simp)
      by_cases hz : X.v = 0
      · rw [shown6z _ h hz, cell_reg _ _ a0 a1]
        show Except.ok (st, { X0 with b := X.b }) = .ok (st, { X0 with b := X.b, v := X.v })
        rw [hz, ← hx0]
      · rw [shown6b _ h hz, cell_both _ _ a0 a1 _ (by have := hs.v; omega), hvv]
        rfl
  · rw [opndV_ins _ _ _ _ _ (by decide), shown7, opndX_num _ _ _ (by decide) (by decide) hs.v.1 hs.v.2]; rfl
  · have hv2 := h8 rfl
    rw [shown8, opndV_place _ _ _ _ _ (by decide) (nameV_go _ (by omega))]
    rfl
  · have hn := nameV_dec X.v.toNat (by have := hs.v; omega)
    have : opndV st X0 9 (shownV X 9) line = withSt st (opndX X0 9 (shownV X 9)) := by
      unfold opndV
      rw [if_neg (fun h2 => by rw [shown9, hn] at h2; cases h2.2), if_neg (by decide)]
    rw [this, shown9, opndX_num _ _ _ (by decide) (by decide) hs.v.1 hs.v.2]; rfl
theorem shown_plain (X : Ins) (kd : Int) (hk : 1 ≤ kd ∧ kd ≤ 9) (hs : ShowOk X kd) : PlainW (shownL X kd) := by
  have hc : kd = 1 ∨ kd = 2 ∨ kd = 3 ∨ kd = 4 ∨ kd = 5 ∨ kd = 6 ∨ kd = 7 ∨ kd = 8 ∨ kd = 9 := by omega
  have hv := hs.v
  have hd : PlainW (decL X.v.toNat) := decL_plain _ (by omega)
  have hr : ∀ n : Int, 0 ≤ n ∧ n ≤ 31 → PlainW (regL n.toNat) := fun n h => regL_plain _ (by omega)
  have hin : ∀ l : List UInt8, (32 : UInt8) ∉ l → (59 : UInt8) ∉ l → (10 : UInt8) ∉ l → PlainW (91 :: (l ++ [93])) := by
    intro l a b c
    refine ⟨?_, ?_, ?_, by simp⟩ <;> simp [a, b, c]
  unfold shownL
  rcases hc with rfl | rfl | rfl | rfl | rfl | rfl | rfl | rfl | rfl
  · rw [shown1, ofL_data]; exact hr _ (hs.a rfl)
  · rw [shown2, ofL_data]; exact hr _ (hs.b (.inl rfl))
  · rw [shown3, ofL_data]; exact hr _ (hs.c (.inl rfl))
  · by_cases h : X.c = -1
    · rw [shown4n _ h, ofL_data]; exact hd
    · rw [shown4r _ h, ofL_data]; exact hr _ (hs.c (.inr ⟨rfl, h⟩))
  · by_cases h : X.b = -1
    · rw [shown5n _ h, ofL_data]; exact hd
    · rw [shown5r _ h, ofL_data]; exact hr _ (hs.b (.inr (.inl ⟨rfl, h⟩)))
  · by_cases h : X.b = -1
    · rw [shown6n _ h, ofL_data]; exact hin _ hd.1 hd.2.1 hd.2.2.1
    · have hb := hr _ (hs.b (.inr (.inr ⟨rfl, h⟩)))
      by_cases hz : X.v = 0
      · rw [shown6z _ h hz, ofL_data]; exact hin _ hb.1 hb.2.1 hb.2.2.1
      · rw [shown6b _ h hz, ofL_data]
        refine hin _ ?_ ?_ ?_
        · intro hm; rcases List.mem_append.1 hm with e | e
          · exact hb.1 e
          · rcases List.mem_cons.1 e with e | e
            · cases e
            · exact hd.1 e
        · intro hm; rcases List.mem_append.1 hm with e | e
          · exact hb.2.1 e
          · rcases List.mem_cons.1 e with e | e
            · cases e
            · exact hd.2.1 e
        · intro hm; rcases List.mem_append.1 hm with e | e
          · exact hb.2.2.1 e
          · rcases List.mem_cons.1 e with e | e
            · cases e
            · exact hd.2.2.1 e
  · rw [shown7, ofL_data]; exact hd
  · rw [shown8, ofL_data]; exact goL_plain _ (by omega)
  · rw [shown9, ofL_data]; exact hd
def fillN (op : Int) (K : Int × Int × Int) (X : Ins) : Nat → Ins
  | 0 => insX op
  | j + 1 => fill (fillN op K X j) X (kindAt K j)
def stN (st : RdSt) (K : Int × Int × Int) (X : Ins) (line : Int) : Nat → RdSt
  | 0 => st
  | j + 1 => stW (stN st K X line j) X (kindAt K j) line
theorem opndsGo_rt (line : Int) (K : Int × Int × Int) (ws : List ByteArray) (op : Int) (X : Ins) (st : RdSt) (n : Nat) :
    ∀ (f j : Nat), j + f = n → (∀ i, i < n → opndV (stN st K X line i) (fillN op K X i) (kindAt K i) (wordAt ws i) line = .ok (stN st K X line (i + 1), fillN op K X (i + 1))) →
      opndsGo line K ws f j (stN st K X line j) (fillN op K X j) = .ok (stN st K X line n, fillN op K X n)
  | 0, j, hj, _ => by obtain rfl : j = n := by omega
                      rfl
  | f + 1, j, hj, h => by
    unfold opndsGo
    rw [h j (by omega)]
    exact opndsGo_rt line K ws op X st n f (j + 1) (by omega) h
def strip (X : Ins) : Ins := if isJ X.op then { X with v := 0 } else X
end Go.Proofs.YtnoejikcdigceaaDoor

set_option linter.unusedVariables false
set_option linter.unusedSimpArgs false
namespace Go.Proofs.YtnoejikcdigceaaDoor
open Go.RowKit
abbrev Form := (Int × Int × Int) × (Bool × Bool × Bool × Bool) × Bool × Bool × Bool × Bool
def formOf (op : Int) : Form := (opndsV op, fieldsV op, isJ op, lessC op, decide (op = 43), decide (op = 22))
def forms : List Form := [((1, 9, 0), (true, false, false, true), false, false, false, false),
  ((1, 2, 0), (true, true, false, false), false, false, false, false),
  ((1, 2, 4), (true, true, true, true), false, true, false, false),
  ((8, 0, 0), (false, false, false, true), true, false, false, false),
  ((1, 8, 0), (true, false, false, true), true, false, false, false),
  ((0, 0, 0), (false, false, false, false), false, false, false, false),
  ((1, 6, 0), (true, true, false, true), false, false, false, false),
  ((1, 6, 3), (true, true, true, true), false, false, false, false),
  ((7, 0, 0), (false, false, false, true), false, false, false, true),
  ((1, 2, 3), (true, true, true, false), false, false, false, false),
  ((1, 0, 0), (true, false, false, false), false, false, false, false),
  ((1, 5, 0), (true, true, false, true), false, false, true, false),
  ((1, 2, 7), (true, true, false, true), false, false, false, false)]
theorem forms_all : ∀ o : Fin 58, formOf ((o.val : Int) + 1) ∈ forms := by decide +kernel
theorem form_mem (op : Int) (h : 1 ≤ op ∧ op ≤ 58) : formOf op ∈ forms := by
  have := forms_all ⟨(op - 1).toNat, by omega⟩
  have e : (((op - 1).toNat : Nat) : Int) + 1 = op := by omega
  simp only [e] at this
  exact this
/-- What mayV says, field by field. -/
structure MayF (X : Ins) (n : Int) : Prop where
  op : 1 ≤ X.op ∧ X.op ≤ 58
  a : (fieldsV X.op).1 = false → X.a = 0
  b : (fieldsV X.op).2.1 = false → X.b = 0
  c : (fieldsV X.op).2.2.1 = false → X.c = 0
  v : (fieldsV X.op).2.2.2 = false → isJ X.op = false → decide (X.op = 22) = false → X.v = 0
  c4 : lessC X.op = true → X.c = -1 ∨ X.v = 0
  c5 : decide (X.op = 43) = true → X.b = -1 ∨ X.v = 0
  j : isJ X.op = true → X.v < n
  w : X.m = 0 → X.wh = 0
theorem mayF_of {X : Ins} {n : Int} {lib : Bool} (h : mayV X n lib = true) : MayF X n := by
  unfold mayV at h
  simp only [Bool.and_eq_true] at h
  obtain ⟨⟨ho, hf⟩, hm⟩ := h
  have hop : 1 ≤ X.op ∧ X.op ≤ 58 := by unfold opMay at ho; simp at ho; exact ho.1
  unfold fldMay at hf
  simp only [Bool.and_eq_true] at hf
  obtain ⟨⟨⟨ha, hb⟩, hc⟩, hnum⟩ := hf
  unfold mrkMay at hm
  simp only [Bool.and_eq_true] at hm
  have hm1 := of_decide_eq_true hm.1
  have r0 : ∀ (x : Int) (l : Bool), regOk x false l = true → x = 0 := fun x l h => by unfold regOk at h; simpa using h
  refine ⟨hop, fun e => r0 _ _ (e ▸ ha), fun e => r0 _ _ (e ▸ hb), fun e => r0 _ _ (e ▸ hc), ?_, ?_, ?_, ?_, ?_⟩
  · intro e j z
    rw [e] at hnum
    unfold numOk at hnum
    rw [if_neg (of_decide_eq_false j), if_neg (of_decide_eq_false z)] at hnum
    split at hnum
    · simp only [Bool.or_eq_true, decide_eq_true_eq] at hnum
      rcases hnum with hnum | hnum
      · rename_i h4
        exfalso
        have : (fieldsV X.op).2.2.2 = true := by
          unfold fieldsV
          rw [if_pos (by omega)]
        rw [e] at this; cases this
      · exact hnum
    · split at hnum
      · rename_i h5
        exfalso
        have : (fieldsV X.op).2.2.2 = true := by rw [h5]; kernel_rfl
        rw [e] at this; cases this
      · simpa using hnum
  · intro h4
    unfold lessC at h4
    have h4 := of_decide_eq_true h4
    unfold numOk at hnum
    rw [if_neg (by omega), if_neg (by omega), if_pos h4] at hnum
    simpa using hnum
  · intro h5
    have h5 := of_decide_eq_true h5
    unfold numOk at hnum
    rw [if_neg (by omega), if_neg (by omega), if_neg (by omega), if_pos h5] at hnum
    simpa using hnum
  · intro hj
    unfold isJ at hj
    unfold numOk at hnum
    rw [if_pos (of_decide_eq_true hj)] at hnum
    exact of_decide_eq_true hnum
  · intro h0
    have := hm.2
    simp only [Bool.or_eq_true, Bool.and_eq_true, decide_eq_true_eq] at this
    rcases this with h | h
    · exact h
    · omega
/-- Behind the operands. -/
def bare (X : Ins) : Ins := { strip X with m := 0, wh := 0 }
theorem ins_go (X : Ins) (n : Nat) (hn : n ≤ 2048) (hf : MayF X n) (hg : Good X n) (line : Int) (ws : List ByteArray) (st : RdSt) (hw : ∀ i, i < cntV (opndsV X.op) → wordAt ws i = shownV X (kindAt (opndsV X.op) i)) :
    opndsGo line (opndsV X.op) ws (cntV (opndsV X.op)) 0 st (insX X.op) = .ok (if isJ X.op then { st with wants := st.wants ++ [((st.code.length : Int), line, ofL (goL X.v.toNat))] } else st, bare X) := by
  obtain ⟨hop, ua, ub, uc, uv, c4, c5, cj, cw⟩ := hf
  have hm := form_mem X.op hop
  have hsh := hg.opnd
  have step : ∀ (K : Int × Int × Int), opndsV X.op = K → (∀ i, i < cntV K → (1 ≤ kindAt K i ∧ kindAt K i ≤ 9) ∧ (kindAt K i = 4 ∨ kindAt K i = 5 ∨ kindAt K i = 6 → (fillN X.op K X i).v = 0) ∧ (kindAt K i = 4 → X.c = -1 ∨ X.v = 0) ∧ (kindAt K i = 5 → X.b = -1 ∨ X.v = 0) ∧ (kindAt K i = 8 → X.v < 2048)) →
      opndsGo line K ws (cntV K) 0 st (insX X.op) = .ok (stN st K X line (cntV K), fillN X.op K X (cntV K)) := by
    intro K hK h
    refine opndsGo_rt line K ws X.op X st (cntV K) (cntV K) 0 (by omega) (fun i hi => ?_)
    obtain ⟨h1, h2, h3, h4, h5⟩ := h i hi
    have := hw i (by rw [hK]; exact hi)
    rw [hK] at this
    rw [this]
    exact opnd_rt _ _ _ _ _ h1 (by have := hsh i (by rw [hK]; exact hi); rw [hK] at this; exact this) h2 h3 h4 h5
  obtain ⟨K, hK⟩ : ∃ K, opndsV X.op = K := ⟨_, rfl⟩
  obtain ⟨F, hF⟩ : ∃ F, fieldsV X.op = F := ⟨_, rfl⟩
  obtain ⟨J, hJ⟩ : ∃ J, isJ X.op = J := ⟨_, rfl⟩
  obtain ⟨C, hC⟩ : ∃ C, lessC X.op = C := ⟨_, rfl⟩
  obtain ⟨D, hD⟩ : ∃ D, decide (X.op = 43) = D := ⟨_, rfl⟩
  obtain ⟨E, hE⟩ : ∃ E, decide (X.op = 22) = E := ⟨_, rfl⟩
  unfold formOf at hm
  have hst : strip X = if J then { X with v := 0 } else X := by unfold strip; rw [hJ]
  unfold bare
  rw [hst]
  have st2 := step K hK
  rw [hK, hF, hJ, hC, hD, hE] at hm
  rw [hF] at ua ub uc
  rw [hF, hJ, hE] at uv
  rw [hC] at c4
  rw [hD] at c5
  rw [hJ] at cj
  rw [hK, hJ]
  clear hK hF hJ hC hD hE step hsh hw hst hg
  obtain ⟨op, a, b, c, v, m, wh⟩ := X
  dsimp only at *
  unfold forms at hm
  simp only [List.mem_cons, Prod.mk.injEq, List.not_mem_nil, or_false] at hm
  rcases hm with ⟨rfl, rfl, rfl, rfl, rfl, rfl⟩ | ⟨rfl, rfl, rfl, rfl, rfl, rfl⟩ | ⟨rfl, rfl, rfl, rfl, rfl, rfl⟩ | ⟨rfl, rfl, rfl, rfl, rfl, rfl⟩ | ⟨rfl, rfl, rfl, rfl, rfl, rfl⟩ | ⟨rfl, rfl, rfl, rfl, rfl, rfl⟩ | ⟨rfl, rfl, rfl, rfl, rfl, rfl⟩ | ⟨rfl, rfl, rfl, rfl, rfl, rfl⟩ | ⟨rfl, rfl, rfl, rfl, rfl, rfl⟩ | ⟨rfl, rfl, rfl, rfl, rfl, rfl⟩ | ⟨rfl, rfl, rfl, rfl, rfl, rfl⟩ | ⟨rfl, rfl, rfl, rfl, rfl, rfl⟩ | ⟨rfl, rfl, rfl, rfl, rfl, rfl⟩
  all_goals
    try have c4' := c4 rfl
    try have c5' := c5 rfl
    try have cj' := cj rfl
    rw [st2 (by
      intro i hi
      have h3 : i = 0 ∨ i = 1 ∨ i = 2 := by have := Nat.lt_of_lt_of_le hi (cntV_le _); omega
      rcases h3 with rfl | rfl | rfl <;> simp [cntV] at hi <;> simp [kindAt, fillN, fill, insX] <;> first | omega | (intros; omega) | skip)]
    simp_all [cntV, stN, stW, kindAt, fillN, fill, insX]
end Go.Proofs.YtnoejikcdigceaaDoor

set_option linter.unusedVariables false
set_option linter.unusedSimpArgs false
namespace Go.Proofs.YtnoejikcdigceaaDoor
open Go.RowKit
instance (w : List UInt8) : Decidable (PlainW w) := by unfold PlainW; infer_instance
def nameL (op : Int) : List UInt8 := (nameOf op).data.toList
theorem names_all : ∀ o : Fin 58, opV (nameOf ((o.val : Int) + 1)) = (o.val : Int) + 1 ∧ PlainW (nameL ((o.val : Int) + 1)) ∧ byteAt (nameOf ((o.val : Int) + 1)) ((nameOf ((o.val : Int) + 1)).size - 1) ≠ 58 := by decide +kernel
theorem name_rt (op : Int) (h : 1 ≤ op ∧ op ≤ 58) : opV (nameOf op) = op ∧ PlainW (nameL op) ∧ byteAt (nameOf op) ((nameOf op).size - 1) ≠ 58 := by
  have := names_all ⟨(op - 1).toNat, by omega⟩
  have e : (((op - 1).toNat : Nat) : Int) + 1 = op := by omega
  simp only [e] at this
  exact this
def markL (m : Nat) (wh : Int) : List UInt8 := 33 :: (decL m ++ (whenS wh).data.toList)
theorem marks_all : ∀ m : Fin 99, ∀ w : Fin 3, markCut ((ofL (markL (m.val + 1) (w.val : Int))).extract 1 (ofL (markL (m.val + 1) (w.val : Int))).size) 0 = ((w.val : Int), ofL (decL (m.val + 1))) ∧ PlainW (markL (m.val + 1) (w.val : Int)) := by decide +kernel
theorem mark_rt (X : Ins) (m wh : Int) (h0 : X.wh = 0) (hm : 1 ≤ m ∧ m ≤ 99) (hw : 0 ≤ wh ∧ wh ≤ 2) : markV X (ofL (markL m.toNat wh)) = .ok { X with m := m, wh := wh } ∧ PlainW (markL m.toNat wh) := by
  have := marks_all ⟨(m - 1).toNat, by omega⟩ ⟨wh.toNat, by omega⟩
  have e1 : (m - 1).toNat + 1 = m.toNat := by omega
  have e2 : ((wh.toNat : Nat) : Int) = wh := by omega
  simp only [e1, e2] at this
  refine ⟨?_, this.2⟩
  unfold markV
  rw [h0, this.1]
  dsimp only
  rw [wparse_dec _ (by omega)]
  unfold markEnd
  have e3 : ((m.toNat : Nat) : Int) = m := by omega
  simp only [e3]
  rw [if_neg (by omega)]
theorem markedV_of (X : Ins) : (markedV X).data.toList = if X.m = 0 then [] else 32 :: markL X.m.toNat X.wh := by
  unfold markedV
  split
  · rfl
  · unfold markL decB; simp
def opsWs (X : Ins) (K : Int × Int × Int) (n : Nat) : List (List UInt8) := (List.range n).map fun j => shownL X (kindAt K j)
def wordsOf (X : Ins) : List (List UInt8) := nameL X.op :: (opsWs X (opndsV X.op) (cntV (opndsV X.op)) ++ if X.m = 0 then [] else [markL X.m.toNat X.wh])
theorem joinW_cons (w : List UInt8) : ∀ ws : List (List UInt8), joinW (w :: ws) = w ++ ws.flatMap fun x => 32 :: x := by
  intro ws
  induction ws generalizing w with
  | nil => simp [joinW]
  | cons v ws ih => show w ++ 32 :: joinW (v :: ws) = _; rw [ih v]; simp
theorem opsL_flat (X : Ins) (K : Int × Int × Int) : ∀ n, opsL X K n = (opsWs X K n).flatMap fun x => 32 :: x
  | 0 => rfl
  | n + 1 => by
    unfold opsL
    rw [opsL_flat X K n]
    unfold opsWs
    rw [List.range_succ, List.map_append, List.flatMap_append]
    simp [shownL]
theorem insL_join (X : Ins) : insL X = joinW (wordsOf X) ++ [10] := by
  unfold insL wordsOf
  rw [joinW_cons, opsL_flat, markedV_of, List.flatMap_append]
  unfold nameL
  split <;> simp
def stJ (st : RdSt) (X : Ins) (line : Int) : RdSt := if isJ X.op then { st with wants := st.wants ++ [((st.code.length : Int), line, ofL (goL X.v.toNat))] } else st
theorem words_plain (X : Ins) (n : Nat) (hf : MayF X n) (hg : Good X n) : ∀ w ∈ wordsOf X, PlainW w := by
  intro w hw
  unfold wordsOf at hw
  rcases List.mem_cons.1 hw with rfl | hw
  · exact (name_rt X.op hf.op).2.1
  · rcases List.mem_append.1 hw with hw | hw
    · unfold opsWs at hw
      obtain ⟨j, hj, rfl⟩ := List.mem_map.1 hw
      have hj := List.mem_range.1 hj
      exact shown_plain X _ (kindAt_bd hj rfl) (hg.opnd j hj)
    · split at hw
      · cases hw
      · obtain rfl := List.mem_singleton.1 hw
        exact (mark_rt ⟨0, 0, 0, 0, 0, 0, 0⟩ X.m X.wh rfl (by have := hg.m; omega) hg.wh).2
theorem line_rt (X : Ins) (n : Nat) (hn : n ≤ 2048) (hf : MayF X n) (hg : Good X n) (st : RdSt) (line : Int) :
    lineV st (ofL (joinW (wordsOf X))) line = .ok { stJ st X line with code := st.code ++ [strip X] } := by
  obtain ⟨n1, n2, n3⟩ := name_rt X.op hf.op
  unfold lineV
  rw [wordsV_join _ (words_plain X n hf hg)]
  unfold wordsOf
  rw [List.map_cons]
  have e0 : ofL (nameL X.op) = nameOf X.op := data_ofL _
  rw [e0]
  have hlw : ∀ ws, lineWs st line (nameOf X.op :: ws) = insV st (nameOf X.op) ws line := fun ws => if_neg (fun h => n3 h.2)
  obtain ⟨ws, hws⟩ : ∃ ws, ws = List.map ofL (opsWs X (opndsV X.op) (cntV (opndsV X.op)) ++ if X.m = 0 then [] else [markL X.m.toNat X.wh]) := ⟨_, rfl⟩
  rw [← hws, hlw]
  have hwl : ws.length = cntV (opndsV X.op) + if X.m = 0 then 0 else 1 := by
    rw [hws]; unfold opsWs; split <;> simp
  have hwi : ∀ i, i < cntV (opndsV X.op) → wordAt ws i = shownV X (kindAt (opndsV X.op) i) := by
    intro i hi
    have hi2 : i < (opsWs X (opndsV X.op) (cntV (opndsV X.op))).length := by unfold opsWs; simpa using hi
    rw [hws]; unfold wordAt
    rw [List.getD_eq_getElem?_getD, List.getElem?_map, List.getElem?_append_left hi2]
    unfold opsWs
    rw [List.getElem?_map, List.getElem?_range hi]
    exact shownL_of _ _
  have hwm : X.m ≠ 0 → wordAt ws (cntV (opndsV X.op)) = ofL (markL X.m.toNat X.wh) := by
    intro h
    rw [hws]; unfold wordAt
    rw [if_neg h, List.getD_eq_getElem?_getD, List.getElem?_map, List.getElem?_append_right (by unfold opsWs; simp)]
    unfold opsWs
    simp
  unfold insV
  rw [n1, if_neg (by have := hf.op; omega)]
  have hcb : cntBad (cntV (opndsV X.op)) ws = false := by
    unfold cntBad
    apply decide_eq_false
    rintro ⟨h1, h2⟩
    rw [hwl] at h1 h2
    by_cases h : X.m = 0
    · rw [if_pos h] at h1; omega
    · rw [if_neg h] at h2
      rcases h2 with h2 | h2
      · omega
      · rw [hwm h, byteAt_ofL] at h2
        exact h2 rfl
  rw [hcb, if_neg (by simp), ins_go X n hn hf hg line ws st hwi]
  have hb0 : (bare X).wh = 0 := rfl
  unfold insEnd
  dsimp only
  by_cases h : X.m = 0
  · have hl : ¬ cntV (opndsV X.op) < ws.length := by rw [hwl, if_pos h]; omega
    rw [if_neg hl]
    have hwz := hf.w h
    have : bare X = strip X := by
      unfold bare strip
      rcases X with ⟨op, a, b, c, v, m, wh⟩
      dsimp only at h hwz
      subst h; subst hwz
      split <;> rfl
    rw [this]
    cases hJ : isJ X.op <;> simp [insPush, stJ, hJ]
  · have hl : cntV (opndsV X.op) < ws.length := by rw [hwl, if_neg h]; omega
    rw [if_pos hl, hwm h, (mark_rt (bare X) X.m X.wh hb0 (by have := hg.m; omega) hg.wh).1]
    have : ({ bare X with m := X.m, wh := X.wh } : Ins) = strip X := by
      unfold bare strip
      split <;> rfl
    rw [this]
    cases hJ : isJ X.op <;> simp [insPush, stJ, hJ]
end Go.Proofs.YtnoejikcdigceaaDoor

set_option linter.unusedVariables false
set_option linter.unusedSimpArgs false
namespace Go.Proofs.YtnoejikcdigceaaDoor
open Go.RowKit
def labOf (i : Nat) : ByteArray × Int := (ofL (goL i), (i : Int))
theorem labOf_inj {i j : Nat} (hi : i ≤ 4096) (hj : j ≤ 4096) (h : ofL (goL i) = ofL (goL j)) : i = j := by
  have : (ofL (goL i)).data.toList = (ofL (goL j)).data.toList := by rw [h]
  rw [ofL_data, ofL_data] at this
  unfold goL at this
  injection this with _ this
  exact decL_inj (by omega) (by omega) this
theorem labFind_in (v : Nat) (hv : v ≤ 4096) : ∀ (is : List Nat) (off : Nat), (∀ i ∈ is, i ≤ 4096) → v ∈ is → ∃ j, labFind (is.map labOf) (ofL (goL v)) off = some (off + j) ∧ (is.map labOf)[j]? = some (labOf v)
  | [], _, _, h => by cases h
  | i :: is, off, hb, h => by
    by_cases e : ofL (goL i) = ofL (goL v)
    · have := labOf_inj (hb i (by simp)) hv e
      subst this
      exact ⟨0, by rw [List.map_cons]; unfold labFind; rw [if_pos (show (labOf i).1 = ofL (goL i) from rfl)]; rfl, rfl⟩
    · have hne : v ≠ i := fun e2 => e (by rw [e2])
      obtain ⟨j, h1, h2⟩ := labFind_in v hv is (off + 1) (fun i hi => hb i (by simp [hi])) (by rcases List.mem_cons.1 h with h | h; exact absurd h hne; exact h)
      refine ⟨j + 1, ?_, h2⟩
      rw [List.map_cons]
      unfold labFind
      rw [if_neg (by exact e), h1]
      congr 1; omega
theorem labFind_out (v : Nat) (hv : v ≤ 4096) : ∀ (is : List Nat) (off : Nat), (∀ i ∈ is, i ≤ 4096) → v ∉ is → labFind (is.map labOf) (ofL (goL v)) off = none
  | [], _, _, _ => rfl
  | i :: is, off, hb, h => by
    rw [List.map_cons]
    unfold labFind
    rw [if_neg (fun e => h (by rw [← labOf_inj (hb i (by simp)) hv e]; simp))]
    exact labFind_out v hv is (off + 1) (fun i hi => hb i (by simp [hi])) (fun h2 => h (by simp [h2]))
def goals (l : List Ins) (k : Nat) : List Nat := (List.range k).filter fun i => goalV l i
theorem goals_succ (l : List Ins) (k : Nat) : goals l (k + 1) = goals l k ++ if goalV l k then [k] else [] := by
  unfold goals; rw [List.range_succ, List.filter_append]
  cases h : goalV l k <;> simp [h]
theorem goals_mem {l : List Ins} {k i : Nat} : i ∈ goals l k ↔ i < k ∧ goalV l i = true := by
  unfold goals; rw [List.mem_filter, List.mem_range]
def labsOf (l : List Ins) (k : Nat) : List (ByteArray × Int) := (goals l k).map labOf
def wantOf (l : List Ins) (i : Nat) : Int × Int × ByteArray := ((i : Int), 0, ofL (goL (l.getD i zI).v.toNat))
def wantsOf (l : List Ins) (k : Nat) : List (Int × Int × ByteArray) := ((List.range k).filter fun i => isJ (l.getD i zI).op).map (wantOf l)
theorem wantsOf_succ (l : List Ins) (k : Nat) : wantsOf l (k + 1) = wantsOf l k ++ if isJ (l.getD k zI).op then [wantOf l k] else [] := by
  unfold wantsOf; rw [List.range_succ, List.filter_append, List.map_append]
  congr 1
  cases h : isJ (l.getD k zI).op <;> simp only [List.filter_cons, List.filter_nil, h] <;> rfl
/-- The text's lines. -/
def lineLs (l : List Ins) (i : Nat) : List (List UInt8) := (if goalV l i then [goL i ++ [58]] else []) ++ [joinW (wordsOf (l.getD i zI))]
def textLs (l : List Ins) (k : Nat) : List (List UInt8) := (List.range k).flatMap (lineLs l)
theorem textLs_succ (l : List Ins) (k : Nat) : textLs l (k + 1) = textLs l k ++ lineLs l k := by
  unfold textLs; rw [List.range_succ, List.flatMap_append]; simp
theorem linesTo_text (l : List Ins) : ∀ k, linesTo l k = (textLs l k).flatMap fun x => x ++ [10]
  | 0 => rfl
  | k + 1 => by
    rw [linesTo_succ, textLs_succ, List.flatMap_append, ← linesTo_text l k, insL_join]
    congr 1
    unfold lineLs labL goL
    cases goalV l k <;> simp
def pairW (x : Int × Int × ByteArray) : Int × ByteArray := (x.1, x.2.2)
/-- The reader behind the first k instructions' lines. -/
structure AtK (l : List Ins) (k : Nat) (st : RdSt) : Prop where
  code : st.code = (l.take k).map strip
  labels : st.labels = labsOf l k
  wants : st.wants.map pairW = (wantsOf l k).map pairW
theorem lines_rt (l : List Ins) (hl : l.length ≤ 2048) (hg : ∀ X ∈ l, MayF X l.length ∧ Good X l.length) (Y : List ByteArray) :
    ∀ k, k ≤ l.length → ∃ (i : Int) (st : RdSt), AtK l k st ∧ linesGo ((textLs l k).map ofL ++ Y) 0 stNil = linesGo Y i st := by
  suffices H : ∀ k, k ≤ l.length → ∀ Y : List ByteArray, ∃ (i : Int) (st : RdSt), AtK l k st ∧ linesGo ((textLs l k).map ofL ++ Y) 0 stNil = linesGo Y i st from fun k hk => H k hk Y
  intro k
  induction k with
  | zero => exact fun _ Y => ⟨0, stNil, ⟨by simp [stNil], rfl, rfl⟩, rfl⟩
  | succ k ih =>
    intro hk Y
    obtain ⟨i, st, hat, he⟩ := ih (by omega) ((lineLs l k).map ofL ++ Y)
    have hkl : k < l.length := by omega
    have hX : l[k]? = some l[k] := List.getElem?_eq_getElem hkl
    have hD : l.getD k zI = l[k] := by rw [List.getD_eq_getElem?_getD, hX]; rfl
    obtain ⟨hf, hgd⟩ := hg l[k] (List.getElem_mem hkl)
    have htk : l.take (k + 1) = l.take k ++ [l[k]] := by rw [List.take_add_one, hX]; rfl
    have hclen : st.code.length = k := by rw [hat.code]; simp; omega
    have main : ∀ (i : Int) (st1 : RdSt), st1.code = st.code → st1.labels = labsOf l (k + 1) → st1.wants = st.wants → ∃ (i' : Int) (st' : RdSt), AtK l (k + 1) st' ∧ linesGo (ofL (joinW (wordsOf (l.getD k zI))) :: Y) i st1 = linesGo Y i' st' := by
      intro i st1 hc hb hw
      refine ⟨i + 1, _, ?_, by rw [hD, linesGo, line_rt l[k] l.length hl hf hgd st1 i]⟩
      refine ⟨?_, ?_, ?_⟩
      · dsimp only; rw [hc, hat.code, htk, List.map_append]; rfl
      · have : (stJ st1 l[k] i).labels = st1.labels := by unfold stJ; split <;> rfl
        dsimp only; rw [this, hb]
      · rw [wantsOf_succ, List.map_append, ← hat.wants, hD]
        dsimp only
        unfold stJ
        have hw2 : st1.wants = st.wants := hw
        cases hJ : isJ l[k].op
        · simp [hw2]
        · simp only [if_pos, List.map_append, hw2]
          congr 1
          have : st1.code.length = k := by rw [hc]; exact hclen
          show [(((st1.code.length : Nat) : Int), ofL (goL l[k].v.toNat))] = [((k : Int), ofL (goL (l.getD k zI).v.toNat))]
          rw [this, hD]
    rw [textLs_succ, List.map_append, List.append_assoc, he]
    have hgs := goals_succ l k
    unfold lineLs
    cases hgv : goalV l k with
    | false =>
      rw [hgv] at hgs
      simp only [Bool.false_eq_true, if_false, List.append_nil] at hgs
      simp only [Bool.false_eq_true, if_false, List.nil_append, List.map_cons, List.map_nil, List.cons_append]
      exact main i st rfl (by unfold labsOf; rw [hgs]; exact hat.labels) rfl
    | true =>
      rw [hgv] at hgs
      simp only [if_true] at hgs
      simp only [if_true, List.map_append, List.map_cons, List.map_nil, List.cons_append, List.nil_append]
      rw [linesGo, lineV_colon _ _ (goL_clear k (by omega))]
      unfold labV
      rw [hat.labels]
      have hno : labFind (labsOf l k) (ofL (goL k)) 0 = none :=
        labFind_out k (by omega) (goals l k) 0 (fun i hi => by have := (goals_mem.1 hi).1; omega) (fun h => by have := (goals_mem.1 h).1; omega)
      rw [hno]
      dsimp only
      rw [nameV_go k (by omega), if_pos rfl]
      exact main (i + 1) _ rfl (by unfold labsOf; rw [hgs, List.map_append, hclen]; rfl) rfl
theorem strip_fill (X : Ins) : ({ strip X with v := X.v } : Ins) = X := by unfold strip; split <;> rfl
theorem strip_no {X : Ins} (h : isJ X.op = false) : strip X = X := by unfold strip; rw [h]; rfl
theorem wantsGo_cons (labels : List (ByteArray × Int)) (x : Int × Int × ByteArray) (xs : List (Int × Int × ByteArray)) (code : List Ins) :
    wantsGo labels (x :: xs) code = match labFind labels x.2.2 0 with
    | some j => wantsGo labels xs (setV code x.1.toNat (labAt labels j))
    | none => none := rfl
theorem wantsGo_app (labels : List (ByteArray × Int)) : ∀ (a b : List (Int × Int × ByteArray)) (code c2 : List Ins), wantsGo labels a code = some c2 → wantsGo labels (a ++ b) code = wantsGo labels b c2
  | [], b, code, c2, h => by injection h with h; subst h; rfl
  | x :: a, b, code, c2, h => by
    show wantsGo labels (x :: (a ++ b)) code = _
    rw [wantsGo_cons] at h ⊢
    cases hf : labFind labels x.2.2 0 with
    | none => rw [hf] at h; cases h
    | some j => rw [hf] at h; exact wantsGo_app labels a b _ c2 h
theorem wants_rt (l : List Ins) (hl : l.length ≤ 2048) (hg : ∀ X ∈ l, MayF X l.length ∧ Good X l.length) : ∀ (k : Nat) (R : List Ins), k ≤ l.length → wantsGo (labsOf l l.length) (wantsOf l k) ((l.take k).map strip ++ R) = some (l.take k ++ R)
  | 0, R, _ => by simp [wantsOf, wantsGo]
  | k + 1, R, hk => by
    have hkl : k < l.length := by omega
    have hX : l[k]? = some l[k] := List.getElem?_eq_getElem hkl
    have hD : l.getD k zI = l[k] := by rw [List.getD_eq_getElem?_getD, hX]; rfl
    have htk : l.take (k + 1) = l.take k ++ [l[k]] := by rw [List.take_add_one, hX]; rfl
    have hlen : (l.take k).length = k := by simp; omega
    rw [wantsOf_succ, htk, List.map_append, List.append_assoc, wantsGo_app _ _ _ _ _ (wants_rt l hl hg k _ (by omega)), hD]
    cases hJ : isJ l[k].op
    · rw [List.map_cons, List.map_nil, strip_no hJ, List.append_assoc]; rfl
    · obtain ⟨h0, h1⟩ := (hg l[k] (List.getElem_mem hkl)).2.jump hJ
      have hgo : goalV l l[k].v.toNat = true := by
        unfold goalV
        rw [List.any_eq_true]
        exact ⟨l[k], List.getElem_mem hkl, by rw [hJ]; simp; omega⟩
      obtain ⟨j, hj1, hj2⟩ := labFind_in l[k].v.toNat (by omega) (goals l l.length) 0 (fun i hi => by have := (goals_mem.1 hi).1; omega) (goals_mem.2 ⟨by omega, hgo⟩)
      rw [Nat.zero_add] at hj1
      simp only [if_true]
      rw [wantsGo_cons]
      have hn : (wantOf l k).2.2 = ofL (goL l[k].v.toNat) := by unfold wantOf; rw [hD]
      rw [hn]
      unfold labsOf
      rw [hj1]
      dsimp only
      unfold wantsGo
      have hla : labAt ((goals l l.length).map labOf) j = l[k].v := by
        unfold labAt; rw [hj2]; unfold labOf; simp; omega
      rw [hla]
      have hn1 : (wantOf l k).1.toNat = k := by unfold wantOf; simp
      rw [hn1]
      unfold setV
      rw [List.map_cons, List.map_nil, List.append_assoc, List.singleton_append]
      congr 1
      have hm : (l.take k ++ (strip l[k] :: R)).modify k (fun X => { X with v := l[k].v }) = l.take k ++ ({ strip l[k] with v := l[k].v } : Ins) :: R := by
        have hat : (l.take k ++ (strip l[k] :: R))[k]? = some (strip l[k]) := by
          rw [List.getElem?_append_right (by omega), hlen, Nat.sub_self]; rfl
        rw [modify_set _ _ _ _ hat, List.set_append_right _ _ (by omega), hlen, Nat.sub_self]; rfl
      rw [hm, strip_fill]; simp
end Go.Proofs.YtnoejikcdigceaaDoor

set_option linter.unusedVariables false
set_option linter.unusedSimpArgs false
namespace Go.Proofs.YtnoejikcdigceaaDoor
open Go.RowKit
theorem textLs_nl (l : List Ins) (hl : l.length ≤ 2048) (hg : ∀ X ∈ l, MayF X l.length ∧ Good X l.length) : ∀ k, k ≤ l.length → ∀ x ∈ textLs l k, (10 : UInt8) ∉ x := by
  intro k hk x hx
  unfold textLs at hx
  obtain ⟨i, hi, hx⟩ := List.mem_flatMap.1 hx
  have hi := List.mem_range.1 hi
  have hil : i < l.length := by omega
  have hD : l.getD i zI = l[i] := by rw [List.getD_eq_getElem?_getD, List.getElem?_eq_getElem hil]; rfl
  unfold lineLs at hx
  rcases List.mem_append.1 hx with hx | hx
  · split at hx
    · obtain rfl := List.mem_singleton.1 hx
      have := (goL_clear i (by omega)).2.2.1
      simp [this]
    · cases hx
  · obtain rfl := List.mem_singleton.1 hx
    rw [hD]
    obtain ⟨hf, hgd⟩ := hg l[i] (List.getElem_mem hil)
    exact joinW_nl _ (words_plain _ _ hf hgd)
theorem parse_back (l : List Ins) (hl : l.length ≤ 2048) (hg : ∀ X ∈ l, MayF X l.length ∧ Good X l.length) : parseV (ofL (linesTo l l.length)) = .ok (l, labsOf l l.length) := by
  unfold parseV parseLs
  rw [linesTo_text, cutLines_text _ (textLs_nl l hl hg _ (Nat.le_refl _))]
  obtain ⟨i, st, hat, he⟩ := lines_rt l hl hg [ofL []] l.length (Nat.le_refl _)
  rw [he, linesGo, lineV_nil]
  dsimp only
  rw [show linesGo [] (i + 1) st = .ok st from rfl]
  dsimp only
  have htl : l.take l.length = l := List.take_length
  have hw : wantsGo st.labels st.wants st.code = some l := by
    rw [hat.labels, hat.code, wantsGo_sim _ _ (wantsOf l l.length) _ hat.wants]
    have := wants_rt l hl hg l.length [] (Nat.le_refl _)
    rw [List.append_nil, List.append_nil, htl] at this
    rw [htl]; exact this
  unfold parseEnd
  rw [hw, hat.labels]
  dsimp only
  rw [if_neg (by omega), if_neg]
  rw [Bool.not_eq_true, List.any_eq_false]
  intro b hb
  unfold labsOf at hb
  obtain ⟨j, hj, rfl⟩ := List.mem_map.1 hb
  have := (goals_mem.1 hj).1
  unfold labOf
  simp
  omega
/-- A printed code, and the labels' places. -/
theorem back_law (l : List Ins) (hl : l.length ≤ 2048) (hbad : badV l < 0) (hv : ∀ X ∈ l, 0 ≤ X.v ∧ X.v ≤ 18446744073709551615) : parseV (ofL (linesTo l l.length)) = .ok (l, labsOf l l.length) :=
  parse_back l hl fun X hX => ⟨mayF_of (badV_may hbad hX), may_of (badV_may hbad hX) (hv X hX) _ rfl⟩
theorem labs_find (l : List Ins) (hl : l.length ≤ 2048) (k : Nat) (hk : k < (labsOf l l.length).length) :
    ∃ v : Nat, v < l.length ∧ (labsOf l l.length)[k]? = some (labOf v) ∧ ∃ j, labFind (labsOf l l.length) (ofL (goL v)) 0 = some j ∧ (labsOf l l.length)[j]? = some (labOf v) := by
  unfold labsOf at hk ⊢
  rw [List.length_map] at hk
  have hm := List.getElem_mem hk
  refine ⟨(goals l l.length)[k], (goals_mem.1 hm).1, ?_, ?_⟩
  · rw [List.getElem?_map, List.getElem?_eq_getElem hk]; rfl
  · obtain ⟨j, h1, h2⟩ := labFind_in (goals l l.length)[k] (by have := (goals_mem.1 hm).1; omega) (goals l l.length) 0 (fun i hi => by have := (goals_mem.1 hi).1; omega) hm
    rw [Nat.zero_add] at h1
    exact ⟨j, h1, h2⟩
end Go.Proofs.YtnoejikcdigceaaDoor
