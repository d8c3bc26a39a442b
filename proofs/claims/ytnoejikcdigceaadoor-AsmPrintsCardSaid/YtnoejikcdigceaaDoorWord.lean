/- word.digit, word.Parse and the errors of packages word and asm: contracts. -/
import Derived.Test.YtnoejikcdigceaaDoorBase
set_option linter.unusedVariables false
set_option linter.unusedSimpArgs false
namespace Go.Proofs.YtnoejikcdigceaaDoor
open Go.RowKit
/-- What a digit is worth. -/
def digV (c : Int) : Int :=
  if 48 ≤ c ∧ c ≤ 57 then c - 48 else if 97 ≤ c ∧ c ≤ 102 then c - 87 else if 65 ≤ c ∧ c ≤ 70 then c - 55 else 99
theorem digV_lo (c : Int) : 0 ≤ digV c := by unfold digV; split; omega; split; omega; split; omega; omega
theorem digV_hi (c : Int) : digV c ≤ 99 := by unfold digV; split; omega; split; omega; split; omega; omega
set_option maxHeartbeats 400000 in
theorem digit_any (c base : Int) (h0 : 0 ≤ c) (h1 : c ≤ 255) (w : World) :
    Calls Tryd.prog 81 #[.int .u8 c, .int .u64 base] w fun e w' =>
      e = .returned (.tuple #[.int .u64 (digV c), .bool (decide (digV c < base))]) ∧ w = w' := by
  go_enter Tryd.func81, Tryd.ntmps81
  go_wp2
  all_goals (go_ret2; refine ⟨?_, rfl⟩)
  all_goals (first
    | (have e : digV c = c - 48 := by { unfold digV; rw [if_pos (by omega)] }
       rw [e]; rfl)
    | (have e : digV c = c - 97 + 10 := by { unfold digV; rw [if_neg (by omega), if_pos (by omega)]; omega }
       rw [e]; rfl)
    | (have e : digV c = c - 65 + 10 := by { unfold digV; rw [if_neg (by omega), if_neg (by omega), if_pos (by omega)]; omega }
       rw [e]; rfl)
    | (have e : digV c = 99 := by { unfold digV; rw [if_neg (by omega), if_neg (by omega), if_neg (by omega)] }
       rw [e]; rfl))

theorem wfail_any (n : Int) (t : TypeId) (x : Value) (w : World) :
    Calls Tryd.prog 82 #[.int .i64 n, .iface t x] w fun e w' =>
      e = .returned (.iface 68 (.pointer (some ⟨w.heap.size, 0, none⟩))) ∧ w.alloc (.cells #[.string ⟨#[119, 111, 114, 100]⟩, .int .i64 n, .iface t x] 72) = w' := by
  go_enter Tryd.func82, Tryd.ntmps82
  go_wp2
  go_ret
  exact ⟨rfl, rfl⟩
theorem afail_any (n : Int) (t : TypeId) (x : Value) (w : World) :
    Calls Tryd.prog 19 #[.int .i64 n, .iface t x] w fun e w' =>
      e = .returned (.iface 68 (.pointer (some ⟨w.heap.size, 0, none⟩))) ∧ w.alloc (.cells #[.string ⟨#[97, 115, 109]⟩, .int .i64 n, .iface t x] 72) = w' := by
  go_enter Tryd.func19, Tryd.ntmps19
  go_wp2
  go_ret
  exact ⟨rfl, rfl⟩

/-- The greatest word. -/
def topW : Int := 18446744073709551615
def wGo (base most : Int) : List UInt8 → Int → Int → Except Int Int
  | [], _, v => .ok v
  | c :: cs, j, v => if digV c.toNat < base ∧ j < most ∧ v ≤ (topW - digV c.toNat) / base then wGo base most cs (j + 1) (v * base + digV c.toNat) else .error j
def wHex (s : ByteArray) : Bool := decide (2 ≤ (s.size : Int) ∧ byteAt s 0 = 48 ∧ byteAt s 1 = 120)
def wShift (d : Int) : Except Int Int → Except Int Int
  | .ok v => .ok v
  | .error j => .error (d + j)
def wparse (s : ByteArray) : Except Int Int :=
  if wHex s then (if s.size = 2 then .error 2 else wShift 2 (wGo 16 16 (s.data.toList.drop 2) 0 0))
  else (if s.size = 0 then .error 0 else wShift 0 (wGo 10 20 s.data.toList 0 0))
/-- What word.Parse does. -/
def WParsed (r : Except Int Int) (w : World) (e : Ending) (w' : World) : Prop :=
  match r with
  | .ok v => e = .returned (.tuple #[.int .u64 v, .nilIface]) ∧ 0 ≤ v ∧ v ≤ topW ∧ w = w'
  | .error i => e = .returned (.tuple #[.int .u64 0, .iface 68 (.pointer (some ⟨w.heap.size, 0, none⟩))]) ∧ w.alloc (.cells #[.string ⟨#[119, 111, 114, 100]⟩, .int .i64 i, .iface 41 (.int .i64 6)] 72) = w'
theorem WParsed.good {r : Except Int Int} {w : World} {v : Int} (h : r = .ok v) (h0 : 0 ≤ v) (h1 : v ≤ topW) : WParsed r w (.returned (.tuple #[.int .u64 v, .nilIface])) w := by
  subst h; exact ⟨rfl, h0, h1, rfl⟩
theorem WParsed.bad {r : Except Int Int} {w : World} {i : Int} (h : r = .error i) : WParsed r w (.returned (.tuple #[.int .u64 0, .iface 68 (.pointer (some ⟨w.heap.size, 0, none⟩))])) (w.alloc (.cells #[.string ⟨#[119, 111, 114, 100]⟩, .int .i64 i, .iface 41 (.int .i64 6)] 72)) := by
  subst h; exact ⟨rfl, rfl⟩

set_option maxHeartbeats 1000000 in
theorem wordParse_any (s : ByteArray) (hs : s.size ≤ maxLen) (w : World) :
    Calls Tryd.prog 72 #[.string s] w (WParsed (wparse s) w) := by
  unfold maxLen at hs
  by_cases hx : wHex s = true
  · have HV : Hid (wparse s = if s.size = 2 then .error 2 else wShift 2 (wGo 16 16 (s.data.toList.drop 2) 0 0)) := by show _ = _; unfold wparse; rw [if_pos hx]
    unfold wHex at hx
    simp only [decide_eq_true_eq] at hx
    have p0 : 0 < s.size := by omega
    have p1 : 1 < s.size := by omega
    have p2 : 2 ≤ s.size := by omega
    have b0 : ((s[0].toNat : Int) == 48) = true := by rw [byteAt_of, beq_iff_eq]; omega
    have b1 : ((s[1].toNat : Int) == 120) = true := by rw [byteAt_of, beq_iff_eq]; omega
    clear hx
    go_enter Tryd.func72, Tryd.ntmps72
    go_wp2
    go_loop [7, 8] (fun n i => ∃ (k : Nat) (v : Int), 2 ≤ k ∧ k ≤ s.size ∧ i = .int .i64 k ∧ n = .int .u64 v ∧ 0 ≤ v ∧ v ≤ topW ∧ Hid (wGo 16 16 (s.data.toList.drop k) ((k : Int) - 2) v = wGo 16 16 (s.data.toList.drop 2) 0 0)) (fun _ i => s.size - (intOf i).toNat)
    case atStart => exact ⟨2, 0, by omega, by omega, rfl, rfl, by omega, by unfold topW; omega, rfl⟩
    case round =>
      obtain ⟨k, v, hk2, hk, rfl, rfl, v0, v1, HG⟩ := hrel
      by_cases hlt : k < s.size
      · have HD : Hid (s.data.toList.drop k = s[k] :: s.data.toList.drop (k + 1)) := drop_cons s k hlt
        have d0 := digV_lo (s[k].toNat : Int)
        have d1 := digV_hi (s[k].toNat : Int)
        have y1 := byte_hi s[k]
        have y0 := byte_lo s[k]
        go_wp2_with (first | (go_at_call 81; refine (digit_any _ _ (by omega) (by omega) _).mono ?_; rintro e w' ⟨rfl, rfl⟩) | (go_at_call 82; refine (wfail_any _ _ _ _).mono ?_; rintro e w' ⟨rfl, rfl⟩))
        all_goals first
          | (go_round
             case rel => exact ⟨k + 1, v * 16 + digV (s[k].toNat : Int), by omega, by omega, by go_num, rfl, by omega, by unfold topW; omega, by
                  show _ = _
                  rw [← HG.out, HD.out, wGo, if_pos (by unfold topW; omega)]
                  congr 1 <;> omega⟩
             case measure => simp [intOf]; omega)
          | (go_ret2
             exact WParsed.bad (by
               rw [HV.out, if_neg (by omega), ← HG.out, HD.out, wGo, if_neg (by unfold topW; omega)]
               show Except.error _ = Except.error _
               congr 1 <;> omega))
      · have HD : Hid (s.data.toList.drop k = []) := drop_end s k (by omega)
        by_cases he : s.size ≤ 2
        · have he' : ((s.size : Int) == 2) = true := by rw [beq_iff_eq]; omega
          go_wp2_with (first | (go_at_call 82; refine (wfail_any _ _ _ _).mono ?_; rintro e w' ⟨rfl, rfl⟩))
          go_ret2
          exact WParsed.bad (by rw [HV.out, if_pos (by omega)])
        · have he' : ((s.size : Int) == 2) = false := by rw [beq_eq_false_iff_ne]; omega
          go_wp2_with (first | (go_at_call 82; refine (wfail_any _ _ _ _).mono ?_; rintro e w' ⟨rfl, rfl⟩))
          go_ret2
          exact WParsed.good (by rw [HV.out, if_neg (by omega), ← HG.out, HD.out, wGo]; rfl) v0 v1
  · have HV : Hid (wparse s = if s.size = 0 then .error 0 else wShift 0 (wGo 10 20 s.data.toList 0 0)) := by show _ = _; unfold wparse; rw [if_neg hx]
    have hx3 : (s.size : Int) < 2 ∨ (2 ≤ (s.size : Int) ∧ byteAt s 0 ≠ 48) ∨ (2 ≤ (s.size : Int) ∧ byteAt s 0 = 48 ∧ byteAt s 1 ≠ 120) := by
      unfold wHex at hx; simp only [decide_eq_true_eq] at hx; omega
    clear hx
    have hx4 : (s.size < 2) ∨ (∃ p0 : 0 < s.size, 2 ≤ s.size ∧ ((s[0].toNat : Int) == 48) = false) ∨ (∃ (p0 : 0 < s.size) (p1 : 1 < s.size), ((s[0].toNat : Int) == 48) = true ∧ ((s[1].toNat : Int) == 120) = false) := by
      rcases hx3 with h | ⟨h, h'⟩ | ⟨h, h', h''⟩
      · exact Or.inl (by omega)
      · exact Or.inr (Or.inl ⟨by omega, by omega, by rw [byteAt_of, beq_eq_false_iff_ne]; exact h'⟩)
      · exact Or.inr (Or.inr ⟨by omega, by omega, by rw [byteAt_of, beq_iff_eq]; exact h', by rw [byteAt_of, beq_eq_false_iff_ne]; exact h''⟩)
    clear hx3
    rcases hx4 with hx5 | ⟨p0, p2, b0⟩ | ⟨p0, p1, b0, b1⟩
    all_goals
      go_enter Tryd.func72, Tryd.ntmps72
      go_wp2
      go_loop [7, 8] (fun n i => ∃ (k : Nat) (v : Int), k ≤ s.size + 1 ∧ k ≤ s.size ∧ i = .int .i64 k ∧ n = .int .u64 v ∧ 0 ≤ v ∧ v ≤ topW ∧ Hid (wGo 10 20 (s.data.toList.drop k) (k : Int) v = wGo 10 20 s.data.toList 0 0)) (fun _ i => s.size - (intOf i).toNat)
      case atStart => exact ⟨0, 0, by omega, by omega, rfl, rfl, by omega, by unfold topW; omega, rfl⟩
      case round =>
        obtain ⟨k, v, hk2, hk, rfl, rfl, v0, v1, HG⟩ := hrel
        by_cases hlt : k < s.size
        · have HD : Hid (s.data.toList.drop k = s[k] :: s.data.toList.drop (k + 1)) := drop_cons s k hlt
          have d0 := digV_lo (s[k].toNat : Int)
          have d1 := digV_hi (s[k].toNat : Int)
          have y1 := byte_hi s[k]
          have y0 := byte_lo s[k]
          go_wp2_with (first | (go_at_call 81; refine (digit_any _ _ (by omega) (by omega) _).mono ?_; rintro e w' ⟨rfl, rfl⟩) | (go_at_call 82; refine (wfail_any _ _ _ _).mono ?_; rintro e w' ⟨rfl, rfl⟩))
          all_goals first
            | (go_round
               case rel => exact ⟨k + 1, v * 10 + digV (s[k].toNat : Int), by omega, by omega, by go_num, rfl, by omega, by unfold topW; omega, by
                    show _ = _
                    rw [← HG.out, HD.out, wGo, if_pos (by unfold topW; omega)]
                    congr 1 <;> omega⟩
               case measure => simp [intOf]; omega)
            | (go_ret2
               exact WParsed.bad (by
                 rw [HV.out, if_neg (by omega), ← HG.out, HD.out, wGo, if_neg (by unfold topW; omega)]
                 show Except.error _ = Except.error _
                 congr 1 <;> omega))
        · have HD : Hid (s.data.toList.drop k = []) := drop_end s k (by omega)
          by_cases he : s.size ≤ 0
          · have he' : ((s.size : Int) == 0) = true := by rw [beq_iff_eq]; omega
            go_wp2_with (first | (go_at_call 82; refine (wfail_any _ _ _ _).mono ?_; rintro e w' ⟨rfl, rfl⟩))
            go_ret2
            exact WParsed.bad (by rw [HV.out, if_pos (by omega)])
          · have he' : ((s.size : Int) == 0) = false := by rw [beq_eq_false_iff_ne]; omega
            go_wp2_with (first | (go_at_call 82; refine (wfail_any _ _ _ _).mono ?_; rintro e w' ⟨rfl, rfl⟩))
            go_ret2
            exact WParsed.good (by rw [HV.out, if_neg (by omega), ← HG.out, HD.out, wGo]; rfl) v0 v1
end Go.Proofs.YtnoejikcdigceaaDoor
