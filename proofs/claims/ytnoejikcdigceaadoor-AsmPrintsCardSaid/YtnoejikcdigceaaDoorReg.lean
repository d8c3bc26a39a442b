/- asm.register: contract. -/
import Derived.Test.YtnoejikcdigceaaDoorBase
set_option linter.unusedVariables false
set_option linter.unusedSimpArgs false
namespace Go.Proofs.YtnoejikcdigceaaDoor
open Go.RowKit
def regGo : List UInt8 → Int → Option Int
  | [], n => some n
  | c :: cs, n => if 48 ≤ (c.toNat : Int) ∧ (c.toNat : Int) ≤ 57 then regGo cs (10 * n + ((c.toNat : Int) - 48)) else none
def regEnd : Option Int → Int × Bool
  | some n => (n, decide (n < 32))
  | none => (0, false)
def regBad (s : ByteArray) : Bool :=
  decide ((s.size : Int) < 2 ∨ 3 < (s.size : Int) ∨ byteAt s 0 ≠ 114 ∨ ((s.size : Int) = 3 ∧ byteAt s 1 = 48))
def regV (s : ByteArray) : Int × Bool :=
  if regBad s then (0, false) else regEnd (regGo (s.data.toList.drop 1) 0)

set_option maxHeartbeats 1000000 in
theorem register_any (s : ByteArray) (hs : s.size ≤ maxLen) (w : World) :
    Calls Tryd.prog 56 #[.string s] w (RetIB .i64 (regV s) w) := by
  unfold maxLen at hs
  by_cases hb : regBad s = true
  · have HV : Hid (regV s = (0, false)) := by show _ = _; unfold regV; rw [if_pos hb]
    unfold regBad at hb
    replace hb := of_decide_eq_true hb
    have HB := Lib.hid hb
    clear hb
    go_enter Tryd.func56, Tryd.ntmps56
    go_wp2
    all_goals first
      | (go_ret2; exact RetIB.mk HV.out)
      | (exfalso; have hb := HB.out; simp only [byteAt_of, beq_eq_false_iff_ne] at *; omega)
  · have HV : Hid (regV s = regEnd (regGo (s.data.toList.drop 1) 0)) := by show _ = _; unfold regV; rw [if_neg hb]
    unfold regBad at hb
    simp only [decide_eq_true_eq] at hb
    have h2 : 2 ≤ s.size := by omega
    have h3 : s.size ≤ 3 := by omega
    have p0 : 0 < s.size := by omega
    have p1 : 1 < s.size := by omega
    have b0 : ((s[0].toNat : Int) != 114) = false := by rw [byteAt_of, bne_eq_false_iff_eq]; omega
    by_cases h4 : s.size < 3
    all_goals
      (try (have b1 : ((s[1].toNat : Int) == 48) = false := by rw [byteAt_of, beq_eq_false_iff_ne]; omega))
      clear hb
      go_enter Tryd.func56, Tryd.ntmps56
      go_wp2
      go_loop [4, 5] (fun n i => ∃ (k : Nat) (m : Int), k ≤ s.size ∧ i = .int .i64 k ∧ n = .int .i64 m ∧ ((k ≤ 1 ∧ 1 ≤ k ∧ m ≤ 0 ∧ 0 ≤ m) ∨ (k ≤ 2 ∧ 2 ≤ k ∧ 0 ≤ m ∧ m ≤ 9) ∨ (k ≤ 3 ∧ 3 ≤ k ∧ 0 ≤ m ∧ m ≤ 99)) ∧ Hid (regGo (s.data.toList.drop k) m = regGo (s.data.toList.drop 1) 0)) (fun _ i => s.size - (intOf i).toNat)
      case atStart => exact ⟨1, 0, by omega, rfl, rfl, by omega, rfl⟩
      case round =>
        obtain ⟨k, m, hk, rfl, rfl, hm, HG⟩ := hrel
        have m0 : 0 ≤ m := by omega
        have m1 : m ≤ 99 := by omega
        by_cases hlt : k < s.size
        · have HD : Hid (s.data.toList.drop k = s[k] :: s.data.toList.drop (k + 1)) := drop_cons s k hlt
          go_wp2
          all_goals first
            | (go_round
               case rel => exact ⟨k + 1, 10 * m + ((s[k].toNat : Int) - 48), by omega, by go_num, rfl, by omega, by
                  show _ = _
                  rw [← HG.out, HD.out]; rw [regGo, if_pos (by omega)]⟩
               case measure => simp [intOf]; omega)
            | (go_ret2
               exact RetIB.mk (by rw [HV.out, ← HG.out, HD.out]; rw [regGo, if_neg (by omega)]; rfl))
        · have HD : Hid (s.data.toList.drop k = []) := drop_end s k (by omega)
          go_wp2
          all_goals
            (go_ret2
             exact RetIB.mk (by rw [HV.out, ← HG.out, HD.out]; rfl))
end Go.Proofs.YtnoejikcdigceaaDoor
