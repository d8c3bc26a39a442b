/- asm.words: contract. -/
import Derived.Test.YtnoejikcdigceaaDoorBase
import Derived.Test.YtnoejikcdigceaaDoorShelf
set_option linter.unusedVariables false
set_option linter.unusedSimpArgs false
namespace Go.Proofs.YtnoejikcdigceaaDoor
open Go.RowKit

def wordsGo (t : ByteArray) : Nat → Nat → Nat → List ByteArray
  | 0, _, _ => []
  | f + 1, i, a =>
    if i < t.size ∧ byteAt t i ≠ 32 then wordsGo t f (i + 1) a
    else if a < i then t.extract a i :: wordsGo t f (i + 1) (i + 1)
    else wordsGo t f (i + 1) (i + 1)
/-- A line without its remark. -/
def cutV (s : ByteArray) : ByteArray := if 0 ≤ Lib.indexByte s.data.toList 59 then s.extract 0 (Lib.indexByte s.data.toList 59).toNat else s
/-- The words of a line. -/
def wordsV (s : ByteArray) : List ByteArray := wordsGo (cutV s) ((cutV s).size + 1) 0 0

theorem idxLt (l : List UInt8) (c : UInt8) : Lib.indexByte l c < l.length ∨ l = [] := by
  induction l with
  | nil => exact Or.inr rfl
  | cons b l ih =>
    refine Or.inl ?_
    unfold Lib.indexByte
    split
    · simp
    · split
      · simp only [List.length_cons]; omega
      · rcases ih with h | h
        · simp only [List.length_cons]; omega
        · subst h; rename_i h1; simp [Lib.indexByte] at h1
theorem idxLe (l : List UInt8) (c : UInt8) : Lib.indexByte l c ≤ l.length := by
  rcases idxLt l c with h | h
  · omega
  · subst h; simp [Lib.indexByte]
theorem info9 : (Tryd.prog.info? 9).map (fun i => (i.zero, i.size, i.bytes)) = some (some (.string ByteArray.empty), 1, 16) := by kernel_rfl
theorem below_app {B : Nat} {w wr w2 : World} {o : Obj} {l : Value} {n : Nat} {xs : List Value} (h : Below B w wr) (ho : wr.ownsRow B 9 1 l n xs) (hg : (wr.alloc o).grownBy w2 l.ownBlock) (hB : B ≤ wr.heap.size := by omega) : Below B w w2 :=
  (h.alloc hB o).grown hg (by simp; omega) (fun k hk => (ho.lt k hk).1)
theorem own_app {B : Nat} {w2 : World} {l : Value} {acc : List ByteArray} {x : ByteArray} (h : w2.ownsRow B 9 1 l (acc.length + 1) (acc.map Value.string ++ [.string x])) : w2.ownsRow B 9 1 l (acc ++ [x]).length ((acc ++ [x]).map Value.string) := by
  simpa using h
/-- What asm.words hands back. -/
def RetWords (ws : List ByteArray) (w : World) (e : Ending) (w' : World) : Prop :=
  ∃ v, e = .returned v ∧ w'.ownsRow w.heap.size 9 1 v ws.length (ws.map Value.string) ∧ Below w.heap.size w w'
theorem RetWords.mk {ws : List ByteArray} {w w' : World} {v : Value} (acc : List ByteArray) (h : ws = acc) (ho : w'.ownsRow w.heap.size 9 1 v acc.length (acc.map Value.string)) (hb : Below w.heap.size w w') : RetWords ws w (.returned v) w' := by
  subst h; exact ⟨v, rfl, ho, hb⟩
theorem idx_call (s : ByteArray) (n : Int) (h : Lib.indexByte s.data.toList 59 = n) (w : World) : Calls Tryd.prog 55 #[.string s, .int .u8 59] w (RetI .i64 n w) :=
  (Tryd.strings_IndexByte s 59 w).mono fun e w' ⟨h1, h2⟩ => ⟨by rw [h1, ← h]; rfl, h2.symm⟩

set_option maxRecDepth 100000 in
set_option maxHeartbeats 4000000 in
theorem words_any (s : ByteArray) (hs : s.size ≤ 65536) (w : World) : Calls Tryd.prog 34 #[.string s] w (RetWords (wordsV s) w) := by
  obtain ⟨i0, hi, hz0, hz1, hz2⟩ := info_parts info9
  have HI := Lib.hid hi
  by_cases h0 : 0 ≤ Lib.indexByte s.data.toList 59
  · obtain ⟨n, hn⟩ := Int.eq_ofNat_of_zero_le h0
    have hle := idxLe s.data.toList 59
    have hnl : n ≤ s.size := by rw [hn] at hle; have : s.data.toList.length = s.size := by simp
                                omega
    have hC := idx_call s n hn
    have HC := Lib.hid hC
    have HT : Hid (cutV s = s.extract 0 n) := by show _ = _; unfold cutV; rw [if_pos h0, hn]; rfl
    clear h0 hle hC hn
    go_enter Tryd.func34, Tryd.ntmps34
    go_wp2_with (go_at_call 55; refine (HC.out _).mono ?_; rintro e w' ⟨rfl, rfl⟩)
    have hts : (s.extract 0 n).size ≤ s.size := by simp; omega
    generalize hT : s.extract 0 n = t at *
    have HV : Hid (wordsGo t (t.size + 1 - 0) 0 0 = wordsV s) := by show _ = _; unfold wordsV; rw [HT.out]; rfl
    clear hT HT HC

    go_loopw [4, 5, 6] (fun l at_ i wr => ∃ (k a : Nat) (acc : List ByteArray), k ≤ t.size + 1 ∧ a ≤ k ∧ at_ = .int .i64 a ∧ i = .int .i64 k ∧ acc.length ≤ k ∧ wr.ownsRow w.heap.size 9 1 l acc.length (acc.map Value.string) ∧ Below w.heap.size w wr ∧ Hid (acc ++ wordsGo t (t.size + 1 - k) k a = wordsV s)) (fun _ _ i _ => t.size + 1 - (intOf i).toNat)
    case atStart => exact ⟨0, 0, [], by omega, by omega, rfl, rfl, by simp, World.ownsRow_nil _ _ _ _, Below.refl _ _, HV.out⟩
    case round =>
      obtain ⟨k, a, acc, hk, ha, rfl, rfl, hacc, hown, hbel, HG⟩ := hrel
      have hsz := hbel.size
      by_cases hlt : k < t.size
      · by_cases hc : ((t[k].toNat : Int) != 32) = true
        · have HE : Hid (wordsGo t (t.size + 1 - k) k a = wordsGo t (t.size + 1 - (k + 1)) (k + 1) a) := by
            show _ = _
            rw [show t.size + 1 - k = (t.size + 1 - (k + 1)) + 1 from by omega, wordsGo, if_pos ⟨hlt, by rw [← byteAt_of t k hlt]; simpa using hc⟩]
          go_wp2
          go_roundw
          case rel => exact ⟨k + 1, a, acc, by omega, by omega, rfl, by go_num, by omega, hown, hbel, by show _ = _; rw [← HE.out]; exact HG.out⟩
          case measure => simp [intOf]; omega
        · have hc' : ((t[k].toNat : Int) != 32) = false := by simpa using hc
          clear hc
          by_cases hak : a < k
          · have HE : Hid (wordsGo t (t.size + 1 - k) k a = t.extract a k :: wordsGo t (t.size + 1 - (k + 1)) (k + 1) (k + 1)) := by
              show _ = _
              rw [show t.size + 1 - k = (t.size + 1 - (k + 1)) + 1 from by omega, wordsGo, if_neg (by rw [← byteAt_of t k hlt]; simp at hc'; simp [hc']), if_pos hak]
            go_wp2_with (at_builtin; refine wpList_append_own _ rfl _ _ 24 rfl w.heap.size 9 i0 (.string ByteArray.empty) 1 16 Tryd.underlying24 hi hz0 hz1 hz2 rfl (by decide) _ _ _ rfl (hown.alloc _) ⟨wr.heap.size, 0, none⟩ 1 1 [.string (t.extract a k)] rfl rfl ?c1A1 ?c2A1 ?c3A1 ?c4A1 ?c5A1 ?_)
            case c1A1 =>
              intro j u hj
              match j, hj with
              | 0, hj => simp at hj; subst hj; simp [Addr.add]
            case c2A1 => first | rfl | (intro u hu; simp at hu; subst hu; rfl)
            case c3A1 => unfold maxLen; omega
            case c4A1 => omega
            case c5A1 => simp; omega
            intro v' w2 hown2 hgrow2 _
            have hbel2 := below_app hbel hown hgrow2
            have hown3 := own_app hown2
            clear hown2 hgrow2 hown hbel
            go_wp2
            go_roundw
            case rel => exact ⟨k + 1, k + 1, acc ++ [t.extract a k], by omega, by omega, by go_num, by go_num, by simp; omega, hown3, hbel2, by show _ = _; rw [List.append_assoc, List.singleton_append, ← HE.out]; exact HG.out⟩
            case measure => simp [intOf]; omega
          · have HE : Hid (wordsGo t (t.size + 1 - k) k a = wordsGo t (t.size + 1 - (k + 1)) (k + 1) (k + 1)) := by
              show _ = _
              rw [show t.size + 1 - k = (t.size + 1 - (k + 1)) + 1 from by omega, wordsGo, if_neg (by rw [← byteAt_of t k hlt]; simp at hc'; simp [hc']), if_neg hak]
            go_wp2
            go_roundw
            case rel => exact ⟨k + 1, k + 1, acc, by omega, by omega, by go_num, by go_num, by omega, hown, hbel, by show _ = _; rw [← HE.out]; exact HG.out⟩
            case measure => simp [intOf]; omega
      · by_cases hle : k ≤ t.size
        · by_cases hak : a < k
          · have HE : Hid (wordsGo t (t.size + 1 - k) k a = t.extract a k :: wordsGo t (t.size + 1 - (k + 1)) (k + 1) (k + 1)) := by
              show _ = _
              rw [show t.size + 1 - k = (t.size + 1 - (k + 1)) + 1 from by omega, wordsGo, if_neg (by intro h; exact hlt h.1), if_pos hak]
            go_wp2_with (at_builtin; refine wpList_append_own _ rfl _ _ 24 rfl w.heap.size 9 i0 (.string ByteArray.empty) 1 16 Tryd.underlying24 hi hz0 hz1 hz2 rfl (by decide) _ _ _ rfl (hown.alloc _) ⟨wr.heap.size, 0, none⟩ 1 1 [.string (t.extract a k)] rfl rfl ?c1A2 ?c2A2 ?c3A2 ?c4A2 ?c5A2 ?_)
            case c1A2 =>
              intro j u hj
              match j, hj with
              | 0, hj => simp at hj; subst hj; simp [Addr.add]
            case c2A2 => first | rfl | (intro u hu; simp at hu; subst hu; rfl)
            case c3A2 => unfold maxLen; omega
            case c4A2 => omega
            case c5A2 => simp; omega
            intro v' w2 hown2 hgrow2 _
            have hbel2 := below_app hbel hown hgrow2
            have hown3 := own_app hown2
            clear hown2 hgrow2 hown hbel
            go_wp2
            go_roundw
            case rel => exact ⟨k + 1, k + 1, acc ++ [t.extract a k], by omega, by omega, by go_num, by go_num, by simp; omega, hown3, hbel2, by show _ = _; rw [List.append_assoc, List.singleton_append, ← HE.out]; exact HG.out⟩
            case measure => simp [intOf]; omega
          · have HE : Hid (wordsGo t (t.size + 1 - k) k a = wordsGo t (t.size + 1 - (k + 1)) (k + 1) (k + 1)) := by
              show _ = _
              rw [show t.size + 1 - k = (t.size + 1 - (k + 1)) + 1 from by omega, wordsGo, if_neg (by intro h; exact hlt h.1), if_neg hak]
            go_wp2
            go_roundw
            case rel => exact ⟨k + 1, k + 1, acc, by omega, by omega, by go_num, by go_num, by omega, hown, hbel, by show _ = _; rw [← HE.out]; exact HG.out⟩
            case measure => simp [intOf]; omega
        · have HE : Hid (wordsGo t (t.size + 1 - k) k a = []) := by
            show _ = _
            rw [show t.size + 1 - k = 0 from by omega, wordsGo]
          go_wp2
          go_ret
          exact RetWords.mk acc (by have h1 := HG.out; rw [HE.out, List.append_nil] at h1; exact h1.symm) hown hbel

  · have hneg : Lib.indexByte s.data.toList 59 = -1 := by have := Lib.indexByte_ge s.data.toList 59; omega
    have hC := idx_call s (-1) hneg
    have HC := Lib.hid hC
    have HT : Hid (cutV s = s) := by show _ = _; unfold cutV; rw [if_neg h0]
    clear h0 hneg hC
    go_enter Tryd.func34, Tryd.ntmps34
    go_wp2_with (go_at_call 55; refine (HC.out _).mono ?_; rintro e w' ⟨rfl, rfl⟩)
    obtain ⟨t, hts, HT2⟩ : ∃ t : ByteArray, t = s ∧ Hid (cutV s = t) := ⟨s, rfl, HT⟩
    have HV : Hid (wordsGo s (s.size + 1 - 0) 0 0 = wordsV s) := by show _ = _; unfold wordsV; rw [HT.out]; rfl
    clear HT HC HT2 hts t

    go_loopw [4, 5, 6] (fun l at_ i wr => ∃ (k a : Nat) (acc : List ByteArray), k ≤ s.size + 1 ∧ a ≤ k ∧ at_ = .int .i64 a ∧ i = .int .i64 k ∧ acc.length ≤ k ∧ wr.ownsRow w.heap.size 9 1 l acc.length (acc.map Value.string) ∧ Below w.heap.size w wr ∧ Hid (acc ++ wordsGo s (s.size + 1 - k) k a = wordsV s)) (fun _ _ i _ => s.size + 1 - (intOf i).toNat)
    case atStart => exact ⟨0, 0, [], by omega, by omega, rfl, rfl, by simp, World.ownsRow_nil _ _ _ _, Below.refl _ _, HV.out⟩
    case round =>
      obtain ⟨k, a, acc, hk, ha, rfl, rfl, hacc, hown, hbel, HG⟩ := hrel
      have hsz := hbel.size
      by_cases hlt : k < s.size
      · by_cases hc : ((s[k].toNat : Int) != 32) = true
        · have HE : Hid (wordsGo s (s.size + 1 - k) k a = wordsGo s (s.size + 1 - (k + 1)) (k + 1) a) := by
            show _ = _
            rw [show s.size + 1 - k = (s.size + 1 - (k + 1)) + 1 from by omega, wordsGo, if_pos ⟨hlt, by rw [← byteAt_of s k hlt]; simpa using hc⟩]
          go_wp2
          go_roundw
          case rel => exact ⟨k + 1, a, acc, by omega, by omega, rfl, by go_num, by omega, hown, hbel, by show _ = _; rw [← HE.out]; exact HG.out⟩
          case measure => simp [intOf]; omega
        · have hc' : ((s[k].toNat : Int) != 32) = false := by simpa using hc
          clear hc
          by_cases hak : a < k
          · have HE : Hid (wordsGo s (s.size + 1 - k) k a = s.extract a k :: wordsGo s (s.size + 1 - (k + 1)) (k + 1) (k + 1)) := by
              show _ = _
              rw [show s.size + 1 - k = (s.size + 1 - (k + 1)) + 1 from by omega, wordsGo, if_neg (by rw [← byteAt_of s k hlt]; simp at hc'; simp [hc']), if_pos hak]
            go_wp2_with (at_builtin; refine wpList_append_own _ rfl _ _ 24 rfl w.heap.size 9 i0 (.string ByteArray.empty) 1 16 Tryd.underlying24 hi hz0 hz1 hz2 rfl (by decide) _ _ _ rfl (hown.alloc _) ⟨wr.heap.size, 0, none⟩ 1 1 [.string (s.extract a k)] rfl rfl ?c1B1 ?c2B1 ?c3B1 ?c4B1 ?c5B1 ?_)
            case c1B1 =>
              intro j u hj
              match j, hj with
              | 0, hj => simp at hj; subst hj; simp [Addr.add]
            case c2B1 => first | rfl | (intro u hu; simp at hu; subst hu; rfl)
            case c3B1 => unfold maxLen; omega
            case c4B1 => omega
            case c5B1 => simp; omega
            intro v' w2 hown2 hgrow2 _
            have hbel2 := below_app hbel hown hgrow2
            have hown3 := own_app hown2
            clear hown2 hgrow2 hown hbel
            go_wp2
            go_roundw
            case rel => exact ⟨k + 1, k + 1, acc ++ [s.extract a k], by omega, by omega, by go_num, by go_num, by simp; omega, hown3, hbel2, by show _ = _; rw [List.append_assoc, List.singleton_append, ← HE.out]; exact HG.out⟩
            case measure => simp [intOf]; omega
          · have HE : Hid (wordsGo s (s.size + 1 - k) k a = wordsGo s (s.size + 1 - (k + 1)) (k + 1) (k + 1)) := by
              show _ = _
              rw [show s.size + 1 - k = (s.size + 1 - (k + 1)) + 1 from by omega, wordsGo, if_neg (by rw [← byteAt_of s k hlt]; simp at hc'; simp [hc']), if_neg hak]
            go_wp2
            go_roundw
            case rel => exact ⟨k + 1, k + 1, acc, by omega, by omega, by go_num, by go_num, by omega, hown, hbel, by show _ = _; rw [← HE.out]; exact HG.out⟩
            case measure => simp [intOf]; omega
      · by_cases hle : k ≤ s.size
        · by_cases hak : a < k
          · have HE : Hid (wordsGo s (s.size + 1 - k) k a = s.extract a k :: wordsGo s (s.size + 1 - (k + 1)) (k + 1) (k + 1)) := by
              show _ = _
              rw [show s.size + 1 - k = (s.size + 1 - (k + 1)) + 1 from by omega, wordsGo, if_neg (by intro h; exact hlt h.1), if_pos hak]
            go_wp2_with (at_builtin; refine wpList_append_own _ rfl _ _ 24 rfl w.heap.size 9 i0 (.string ByteArray.empty) 1 16 Tryd.underlying24 hi hz0 hz1 hz2 rfl (by decide) _ _ _ rfl (hown.alloc _) ⟨wr.heap.size, 0, none⟩ 1 1 [.string (s.extract a k)] rfl rfl ?c1B2 ?c2B2 ?c3B2 ?c4B2 ?c5B2 ?_)
            case c1B2 =>
              intro j u hj
              match j, hj with
              | 0, hj => simp at hj; subst hj; simp [Addr.add]
            case c2B2 => first | rfl | (intro u hu; simp at hu; subst hu; rfl)
            case c3B2 => unfold maxLen; omega
            case c4B2 => omega
            case c5B2 => simp; omega
            intro v' w2 hown2 hgrow2 _
            have hbel2 := below_app hbel hown hgrow2
            have hown3 := own_app hown2
            clear hown2 hgrow2 hown hbel
            go_wp2
            go_roundw
            case rel => exact ⟨k + 1, k + 1, acc ++ [s.extract a k], by omega, by omega, by go_num, by go_num, by simp; omega, hown3, hbel2, by show _ = _; rw [List.append_assoc, List.singleton_append, ← HE.out]; exact HG.out⟩
            case measure => simp [intOf]; omega
          · have HE : Hid (wordsGo s (s.size + 1 - k) k a = wordsGo s (s.size + 1 - (k + 1)) (k + 1) (k + 1)) := by
              show _ = _
              rw [show s.size + 1 - k = (s.size + 1 - (k + 1)) + 1 from by omega, wordsGo, if_neg (by intro h; exact hlt h.1), if_neg hak]
            go_wp2
            go_roundw
            case rel => exact ⟨k + 1, k + 1, acc, by omega, by omega, by go_num, by go_num, by omega, hown, hbel, by show _ = _; rw [← HE.out]; exact HG.out⟩
            case measure => simp [intOf]; omega
        · have HE : Hid (wordsGo s (s.size + 1 - k) k a = []) := by
            show _ = _
            rw [show s.size + 1 - k = 0 from by omega, wordsGo]
          go_wp2
          go_ret
          exact RetWords.mk acc (by have h1 := HG.out; rw [HE.out, List.append_nil] at h1; exact h1.symm) hown hbel

end Go.Proofs.YtnoejikcdigceaaDoor
