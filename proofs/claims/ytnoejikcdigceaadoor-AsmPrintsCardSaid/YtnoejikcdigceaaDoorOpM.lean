/- asm.op: contract. -/
import Derived.Test.YtnoejikcdigceaaDoorBase
set_option linter.unusedVariables false
set_option linter.unusedSimpArgs false
namespace Go.Proofs.YtnoejikcdigceaaDoor
open Go.RowKit
def namesB : ByteArray := (ByteArray.mk (List.toArray (List.append (List.append [115, 101, 116, 32, 109, 111, 118, 32, 97, 100, 100, 32, 115, 117, 98, 32, 97, 110, 100, 32, 111, 114, 32, 120, 111, 114, 32, 115, 104, 108, 32, 115, 104, 114, 32, 101, 113, 32, 108, 116, 32, 106, 109, 112, 32, 106, 122, 32, 106, 110, 122, 32, 106, 115, 114, 32] [114, 101, 116, 32, 108, 100, 32, 115, 116, 32, 115, 119, 112, 32, 102, 97, 100, 32, 99, 97, 115, 32, 99, 97, 108, 108, 32, 104, 115, 104, 32, 113, 112, 116, 32, 113, 116, 107, 32, 113, 109, 118, 32, 113, 104, 115, 32, 115, 108, 112, 32, 104, 110, 100, 32, 112, 105]) (List.append [107, 32, 108, 97, 121, 32, 116, 97, 107, 32, 105, 110, 106, 32, 105, 106, 116, 32, 114, 117, 110, 32, 112, 114, 107, 32, 115, 108, 102, 32, 119, 114, 107, 32, 119, 107, 100, 32, 119, 107, 110, 32, 110, 111, 119, 32, 100, 114, 119, 32, 103, 101, 116, 32, 102, 114, 101] [32, 111, 98, 106, 32, 100, 101, 108, 32, 99, 107, 112, 32, 116, 110, 119, 32, 116, 115, 116, 32, 116, 104, 109, 32, 116, 106, 110, 32, 116, 100, 116, 32, 116, 101, 120, 32, 116, 114, 112, 32, 101, 110, 100, 32, 121, 108, 100, 32, 99, 98, 107, 32, 102, 105, 110, 32]))))
theorem namesB_size : namesB.size = 227 := by decide +kernel
theorem toList_data (s : ByteArray) : s.toList = s.data.toList := ByteArray.toList_eq s
theorem toList_eq {a b : ByteArray} (h : (a.toList == b.toList) = true) : a = b := by
  have h1 := beq_iff_eq.1 h
  rw [toList_data, toList_data] at h1
  exact ByteArray.ext (Array.ext' h1)
theorem toList_ne {a b : ByteArray} (h : (a.toList == b.toList) = false) : ¬ a = b := by
  intro e; subst e; simp at h
def opGo (s : ByteArray) : Nat → Nat → Nat → Int → Int
  | 0, _, _, _ => 0
  | f + 1, i, a, n => if byteAt namesB i ≠ 32 then opGo s f (i + 1) a n else if namesB.extract a i = s then n else opGo s f (i + 1) (i + 1) (n + 1)
/-- The number of an operation's name; 0: none. -/
def opV (s : ByteArray) : Int := opGo s 227 0 0 1
set_option maxRecDepth 100000 in
set_option maxHeartbeats 4000000 in
theorem op_any (s : ByteArray) (w : World) : Calls Tryd.prog 36 #[.string s] w (RetI .i64 (opV s) w) := by
  have hN := namesB_size
  have HV : Hid (opGo s (227 - 0) 0 0 1 = opV s) := rfl
  go_enter Tryd.func36, Tryd.ntmps36
  obtain ⟨N, HN⟩ : ∃ N : ByteArray, Hid (N = namesB) := ⟨_, rfl⟩
  generalize hG : (ByteArray.mk (List.toArray (List.append (List.append [115, 101, 116, 32, 109, 111, 118, 32, 97, 100, 100, 32, 115, 117, 98, 32, 97, 110, 100, 32, 111, 114, 32, 120, 111, 114, 32, 115, 104, 108, 32, 115, 104, 114, 32, 101, 113, 32, 108, 116, 32, 106, 109, 112, 32, 106, 122, 32, 106, 110, 122, 32, 106, 115, 114, 32] [114, 101, 116, 32, 108, 100, 32, 115, 116, 32, 115, 119, 112, 32, 102, 97, 100, 32, 99, 97, 115, 32, 99, 97, 108, 108, 32, 104, 115, 104, 32, 113, 112, 116, 32, 113, 116, 107, 32, 113, 109, 118, 32, 113, 104, 115, 32, 115, 108, 112, 32, 104, 110, 100, 32, 112, 105]) (List.append [107, 32, 108, 97, 121, 32, 116, 97, 107, 32, 105, 110, 106, 32, 105, 106, 116, 32, 114, 117, 110, 32, 112, 114, 107, 32, 115, 108, 102, 32, 119, 114, 107, 32, 119, 107, 100, 32, 119, 107, 110, 32, 110, 111, 119, 32, 100, 114, 119, 32, 103, 101, 116, 32, 102, 114, 101] [32, 111, 98, 106, 32, 100, 101, 108, 32, 99, 107, 112, 32, 116, 110, 119, 32, 116, 115, 116, 32, 116, 104, 109, 32, 116, 106, 110, 32, 116, 100, 116, 32, 116, 101, 120, 32, 116, 114, 112, 32, 101, 110, 100, 32, 121, 108, 100, 32, 99, 98, 107, 32, 102, 105, 110, 32])))) = N2
  have hNs : N2.size = 227 := by rw [← hG]; exact namesB_size
  have HG : Hid (N2 = namesB) := hG.symm
  clear hG HN N hN
  have hs1 : N2.size ≤ 227 := by omega
  have hs2 : 227 ≤ N2.size := by omega
  clear hNs
  go_wp2
  go_loop [3, 4, 5] (fun at_ n i => ∃ (k a : Nat) (m : Int), k ≤ 227 ∧ a ≤ k ∧ 1 ≤ m ∧ m ≤ k + 1 ∧ at_ = .int .i64 a ∧ n = .int .i64 m ∧ i = .int .i64 k ∧ Hid (opGo s (227 - k) k a m = opV s)) (fun _ _ i => 227 - (intOf i).toNat)
  case atStart => exact ⟨0, 0, 1, by omega, by omega, by omega, by omega, rfl, rfl, rfl, HV⟩
  case round =>
    obtain ⟨k, a, m, hk, ha, hm0, hm1, rfl, rfl, rfl, HR⟩ := hrel
    by_cases hlt : k < 227
    · have hkN : k < N2.size := by omega
      have HE : ∀ x y z, Hid (opGo s (227 - k) k a m = if byteAt namesB k ≠ 32 then x else if namesB.extract a k = s then y else z) → True := fun _ _ _ _ => trivial
      have HS : Hid (opGo s (227 - k) k a m = if byteAt namesB k ≠ 32 then opGo s (227 - (k + 1)) (k + 1) a m else if namesB.extract a k = s then m else opGo s (227 - (k + 1)) (k + 1) (k + 1) (m + 1)) := by
        show _ = _
        rw [show 227 - k = (227 - (k + 1)) + 1 from by omega, opGo]
      clear HE
      go_wp2
      all_goals first
        | (go_round
           case rel => exact ⟨k + 1, a, m, by omega, by omega, by omega, by omega, rfl, rfl, by go_num, by
              show _ = _
              have h := HS.out
              rw [if_pos (by rw [← HG.out, ← byteAt_of N2 k hkN]; simpa using (show ((N2[k].toNat : Int) != 32) = true from by assumption))] at h
              rw [← h]; exact HR.out⟩
           case measure => simp [intOf]; omega)
        | (go_ret
           exact RetI.mk (by
              have h := HS.out
              rw [if_neg (by rw [← HG.out, ← byteAt_of N2 k hkN]; simpa using (show ((N2[k].toNat : Int) != 32) = false from by assumption)), if_pos (by rw [← HG.out]; exact toList_eq (by assumption))] at h
              rw [← HR.out]; exact h))
        | (go_round
           case rel => exact ⟨k + 1, k + 1, m + 1, by omega, by omega, by omega, by omega, by go_num, rfl, by go_num, by
              show _ = _
              have h := HS.out
              rw [if_neg (by rw [← HG.out, ← byteAt_of N2 k hkN]; simpa using (show ((N2[k].toNat : Int) != 32) = false from by assumption)), if_neg (by rw [← HG.out]; exact toList_ne (by assumption))] at h
              rw [← h]; exact HR.out⟩
           case measure => simp [intOf]; omega)
    · have HE : Hid (opGo s (227 - k) k a m = 0) := by
        show _ = _
        rw [show 227 - k = 0 from by omega, opGo]
      go_wp2
      go_ret
      exact RetI.mk (by rw [← HR.out]; exact HE.out)
end Go.Proofs.YtnoejikcdigceaaDoor
