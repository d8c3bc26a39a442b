/- asm.name: contract. -/
import Derived.Test.YtnoejikcdigceaaDoorOpM
set_option linter.unusedVariables false
set_option linter.unusedSimpArgs false
namespace Go.Proofs.YtnoejikcdigceaaDoor
open Go.RowKit
def nmGo (op : Int) : Nat → Nat → Nat → Int → ByteArray
  | 0, _, _, _ => ⟨#[]⟩
  | f + 1, i, a, n => if byteAt namesB i ≠ 32 then nmGo op f (i + 1) a n else if n = op then namesB.extract a i else nmGo op f (i + 1) (i + 1) (n + 1)
/-- An operation's name. -/
def nameOf (op : Int) : ByteArray := nmGo op 227 0 0 1
def RetStr (s : ByteArray) (w : World) (e : Ending) (w' : World) : Prop := e = .returned (.string s) ∧ w = w'
theorem RetStr.mk {s t : ByteArray} {w : World} (h : s = t) : RetStr s w (.returned (.string t)) w := ⟨by rw [h], rfl⟩
set_option maxRecDepth 100000 in
set_option maxHeartbeats 4000000 in
theorem name_any (op : Int) (w : World) : Calls Tryd.prog 26 #[.int .i64 op] w (RetStr (nameOf op) w) := by
  have hN := namesB_size
  have HV : Hid (nmGo op (227 - 0) 0 0 1 = nameOf op) := rfl
  go_enter Tryd.func26, Tryd.ntmps26
  obtain ⟨N, HN⟩ : ∃ N : ByteArray, Hid (N = namesB) := ⟨_, rfl⟩
  generalize hG : (ByteArray.mk (List.toArray (List.append (List.append [115, 101, 116, 32, 109, 111, 118, 32, 97, 100, 100, 32, 115, 117, 98, 32, 97, 110, 100, 32, 111, 114, 32, 120, 111, 114, 32, 115, 104, 108, 32, 115, 104, 114, 32, 101, 113, 32, 108, 116, 32, 106, 109, 112, 32, 106, 122, 32, 106, 110, 122, 32, 106, 115, 114, 32] [114, 101, 116, 32, 108, 100, 32, 115, 116, 32, 115, 119, 112, 32, 102, 97, 100, 32, 99, 97, 115, 32, 99, 97, 108, 108, 32, 104, 115, 104, 32, 113, 112, 116, 32, 113, 116, 107, 32, 113, 109, 118, 32, 113, 104, 115, 32, 115, 108, 112, 32, 104, 110, 100, 32, 112, 105]) (List.append [107, 32, 108, 97, 121, 32, 116, 97, 107, 32, 105, 110, 106, 32, 105, 106, 116, 32, 114, 117, 110, 32, 112, 114, 107, 32, 115, 108, 102, 32, 119, 114, 107, 32, 119, 107, 100, 32, 119, 107, 110, 32, 110, 111, 119, 32, 100, 114, 119, 32, 103, 101, 116, 32, 102, 114, 101] [32, 111, 98, 106, 32, 100, 101, 108, 32, 99, 107, 112, 32, 116, 110, 119, 32, 116, 115, 116, 32, 116, 104, 109, 32, 116, 106, 110, 32, 116, 100, 116, 32, 116, 101, 120, 32, 116, 114, 112, 32, 101, 110, 100, 32, 121, 108, 100, 32, 99, 98, 107, 32, 102, 105, 110, 32])))) = N2
  have hNs : N2.size = 227 := by rw [← hG]; exact namesB_size
  have HG : Hid (N2 = namesB) := hG.symm
  clear hG HN N hN
  have hs1 : N2.size ≤ 227 := by omega
  have hs2 : 227 ≤ N2.size := by omega
  clear hNs
  go_wp2
  go_loop [3, 4, 5] (fun at_ n i => ∃ (k a : Nat) (m : Int), k ≤ 227 ∧ a ≤ k ∧ 1 ≤ m ∧ m ≤ k + 1 ∧ at_ = .int .i64 a ∧ n = .int .i64 m ∧ i = .int .i64 k ∧ Hid (nmGo op (227 - k) k a m = nameOf op)) (fun _ _ i => 227 - (intOf i).toNat)
  case atStart => exact ⟨0, 0, 1, by omega, by omega, by omega, by omega, rfl, rfl, rfl, HV⟩
  case round =>
    obtain ⟨k, a, m, hk, ha, hm0, hm1, rfl, rfl, rfl, HR⟩ := hrel
    by_cases hlt : k < 227
    · have hkN : k < N2.size := by omega
      have HE : ∀ x y z, Hid (nmGo op (227 - k) k a m = if byteAt namesB k ≠ 32 then x else if m = op then y else z) → True := fun _ _ _ _ => trivial
      have HS : Hid (nmGo op (227 - k) k a m = if byteAt namesB k ≠ 32 then nmGo op (227 - (k + 1)) (k + 1) a m else if m = op then namesB.extract a k else nmGo op (227 - (k + 1)) (k + 1) (k + 1) (m + 1)) := by
        show _ = _
        rw [show 227 - k = (227 - (k + 1)) + 1 from by omega, nmGo]
      clear HE
      go_wp2
      all_goals first
        | (go_round
           case rel => exact ⟨k + 1, a, m, by omega, by omega, by omega, by omega, rfl, rfl, by go_num, by
              show _ = _
              have h := HS.out
              rw [if_pos (by rw [← HG.out, ← byteAt_of N2 k hkN]; simpa using (show ((N2[k].toNat : Int) != 32) = true from by assumption))] at h
              rw [← h]; exact HR.out⟩
           case measure => simp [intOf]; omega)
        | (go_ret
           exact RetStr.mk (by
              have h := HS.out
              rw [if_neg (by rw [← HG.out, ← byteAt_of N2 k hkN]; simpa using (show ((N2[k].toNat : Int) != 32) = false from by assumption)), if_pos (by simpa using (show ((m : Int) == op) = true from by assumption))] at h
              rw [← HR.out, h, HG.out]))
        | (go_round
           case rel => exact ⟨k + 1, k + 1, m + 1, by omega, by omega, by omega, by omega, by go_num, rfl, by go_num, by
              show _ = _
              have h := HS.out
              rw [if_neg (by rw [← HG.out, ← byteAt_of N2 k hkN]; simpa using (show ((N2[k].toNat : Int) != 32) = false from by assumption)), if_neg (by simpa using (show ((m : Int) == op) = false from by assumption))] at h
              rw [← h]; exact HR.out⟩
           case measure => simp [intOf]; omega)
    · have HE : Hid (nmGo op (227 - k) k a m = ⟨#[]⟩) := by
        show _ = _
        rw [show 227 - k = 0 from by omega, nmGo]
      go_wp2
      go_ret
      exact RetStr.mk (by rw [← HR.out]; exact HE.out)
end Go.Proofs.YtnoejikcdigceaaDoor
