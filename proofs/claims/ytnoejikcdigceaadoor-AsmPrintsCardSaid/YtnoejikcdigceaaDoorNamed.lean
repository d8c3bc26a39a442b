/- asm.named, asm.number: contracts. -/
import Derived.Test.YtnoejikcdigceaaDoorWord
import Derived.Test.YtnoejikcdigceaaDoorReg
set_option linter.unusedVariables false
set_option linter.unusedSimpArgs false
namespace Go.Proofs.YtnoejikcdigceaaDoor
open Go.RowKit
def nameCh (c : UInt8) : Bool := decide ((97 ≤ (c.toNat : Int) ∧ (c.toNat : Int) ≤ 122) ∨ (48 ≤ (c.toNat : Int) ∧ (c.toNat : Int) ≤ 57))
def nameBad (s : ByteArray) : Bool := decide ((s.size : Int) < 1 ∨ 16 < (s.size : Int) ∨ byteAt s 0 < 97 ∨ 122 < byteAt s 0)
/-- Whether a word is a label's name. -/
def nameV (s : ByteArray) : Bool := if nameBad s then false else if s.data.toList.all nameCh then !(regV s).2 else false

set_option maxHeartbeats 2000000 in
theorem named_any (s : ByteArray) (hs : s.size ≤ maxLen) (w : World) : Calls Tryd.prog 35 #[.string s] w (RetB (nameV s) w) := by
  have hs0 : s.size ≤ maxLen := hs
  have HS := Lib.hid hs0
  clear hs0
  unfold maxLen at hs
  by_cases hb : nameBad s = true
  · have HV : Hid (nameV s = false) := by show _ = _; unfold nameV; rw [if_pos hb]
    unfold nameBad at hb
    replace hb := of_decide_eq_true hb
    have HB := Lib.hid hb
    clear hb
    go_enter Tryd.func35, Tryd.ntmps35
    go_wp2
    all_goals first
      | (go_ret; exact RetB.mk HV.out)
      | (exfalso; have hb := HB.out; simp only [byteAt_of] at *; omega)
  · have HV : Hid (nameV s = if s.data.toList.all nameCh then !(regV s).2 else false) := by show _ = _; unfold nameV; rw [if_neg hb]
    unfold nameBad at hb
    simp only [decide_eq_true_eq] at hb
    have h2 : 1 ≤ s.size := by omega
    have h3 : s.size ≤ 16 := by omega
    have p0 : 0 < s.size := by omega
    have b0 : 97 ≤ (s[0].toNat : Int) := by rw [byteAt_of]; omega
    have b1 : (s[0].toNat : Int) ≤ 122 := by rw [byteAt_of]; omega
    clear hb
    go_enter Tryd.func35, Tryd.ntmps35
    go_wp2
    go_loop [3] (fun i => ∃ (k : Nat), k ≤ s.size ∧ i = .int .i64 k ∧ Hid (s.data.toList.all nameCh = (s.data.toList.drop k).all nameCh)) (fun i => s.size - (intOf i).toNat)
    case atStart => exact ⟨0, by omega, rfl, rfl⟩
    case round =>
      obtain ⟨k, hk, rfl, HG⟩ := hrel
      by_cases hlt : k < s.size
      · have HD : Hid (s.data.toList.drop k = s[k] :: s.data.toList.drop (k + 1)) := drop_cons s k hlt
        go_wp2
        all_goals first
          | (go_round
             case rel => exact ⟨k + 1, by omega, by go_num, by
                show _ = _
                rw [HG.out, HD.out, List.all_cons]
                have e : nameCh s[k] = true := by unfold nameCh; rw [decide_eq_true_eq]; omega
                rw [e, Bool.true_and]⟩
             case measure => simp [intOf]; omega)
          | (go_ret
             exact RetB.mk (by
                rw [HV.out, HG.out, HD.out, List.all_cons]
                have e : nameCh s[k] = false := by unfold nameCh; rw [decide_eq_false_iff_not]; omega
                rw [e, Bool.false_and]; rfl))
      · have HD : Hid (s.data.toList.drop k = []) := drop_end s k (by omega)
        go_wp2_with (go_at_call 56; refine (register_any _ HS.out _).mono ?_; rintro e w' ⟨rfl, rfl⟩)
        go_ret
        exact RetB.mk (by rw [HV.out, HG.out, HD.out]; rfl)

theorem wordParse_ok (s : ByteArray) (hs : s.size ≤ maxLen) (v : Int) (h : wparse s = .ok v) (w : World) :
    Calls Tryd.prog 72 #[.string s] w (WParsed (.ok v) w) := by rw [← h]; exact wordParse_any s hs w
theorem wordParse_er (s : ByteArray) (hs : s.size ≤ maxLen) (i : Int) (h : wparse s = .error i) (w : World) :
    Calls Tryd.prog 72 #[.string s] w (WParsed (.error i) w) := by rw [← h]; exact wordParse_any s hs w

/-- What asm.number does. -/
def Numbered (r : Except Int Int) (line : Int) (w : World) (e : Ending) (w' : World) : Prop :=
  match r with
  | .ok v => e = .returned (.tuple #[.int .u64 v, .nilIface]) ∧ 0 ≤ v ∧ v ≤ topW ∧ w = w'
  | .error i => e = .returned (.tuple #[.int .u64 0, .iface 68 (.pointer (some ⟨w.heap.size + 1, 0, none⟩))]) ∧
      (w.alloc (.cells #[.string ⟨#[119, 111, 114, 100]⟩, .int .i64 i, .iface 41 (.int .i64 6)] 72)).alloc (.cells #[.string ⟨#[97, 115, 109]⟩, .int .i64 line, .iface 68 (.pointer (some ⟨w.heap.size, 0, none⟩))] 72) = w'

theorem number_ok (s : ByteArray) (hs : s.size ≤ maxLen) (v : Int) (h : wparse s = .ok v) (line : Int) (w : World) :
    Calls Tryd.prog 57 #[.string s, .int .i64 line] w (Numbered (.ok v) line w) := by
  have HC := Lib.hid (wordParse_ok s hs v h)
  clear h hs
  go_enter Tryd.func57, Tryd.ntmps57
  go_wp2_with (go_at_call 72; refine (HC.out _).mono ?_; rintro e w' ⟨rfl, h0, h1, rfl⟩)
  go_ret2
  exact ⟨rfl, ‹_›, ‹_›, rfl⟩
theorem number_er (s : ByteArray) (hs : s.size ≤ maxLen) (i : Int) (h : wparse s = .error i) (line : Int) (w : World) :
    Calls Tryd.prog 57 #[.string s, .int .i64 line] w (Numbered (.error i) line w) := by
  have HC := Lib.hid (wordParse_er s hs i h)
  clear h hs
  go_enter Tryd.func57, Tryd.ntmps57
  go_wp2_with (first | (go_at_call 72; refine (HC.out _).mono ?_; rintro e w' ⟨rfl, rfl⟩) | (go_at_call 19; refine (afail_any _ _ _ _).mono ?_; rintro e w' ⟨rfl, rfl⟩))
  go_ret2
  exact ⟨rfl, rfl⟩
end Go.Proofs.YtnoejikcdigceaaDoor
