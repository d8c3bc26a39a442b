/- asm.reader.operand at kinds that name no place: contract. -/
import Derived.Test.YtnoejikcdigceaaDoorRd
set_option linter.unusedVariables false
set_option linter.unusedSimpArgs false
namespace Go.Proofs.YtnoejikcdigceaaDoor
open Go.RowKit
set_option maxHeartbeats 4000000 in
/-- A register is wanted. -/
theorem opnd_reg (s : ByteArray) (hs : s.size ≤ 65536) (kind line : Int) (hk : kind = 1 ∨ kind = 2 ∨ kind = 3) (pr bx : Nat) (X : Ins) (w : World) (hx : InsAt w bx X) :
    Calls Tryd.prog 37 #[.pointer (some ⟨pr, 0, none⟩), .pointer (some ⟨bx, 0, none⟩), .int .i64 kind, .string s, .int .i64 line] w (OpDone (opndX X kind s) bx line w) := by
  have c1 : w.cell? ⟨bx, 1, none⟩ = some (.int .i64 X.a) := hx.cell 1
  have c2 : w.cell? ⟨bx, 2, none⟩ = some (.int .i64 X.b) := hx.cell 2
  have c3 : w.cell? ⟨bx, 3, none⟩ = some (.int .i64 X.c) := hx.cell 3
  have f1 := hx.free 1
  have f2 := hx.free 2
  have f3 := hx.free 3
  have hlt := hx.lt
  have HX := Lib.hid hx
  clear hx
  have hu : s.size ≤ maxLen := by unfold maxLen; omega
  rcases hr : regV s with ⟨n, b⟩
  have HR := Lib.hid (reg_call s hu n b hr)
  clear hu
  cases b
  · rcases hk with rfl | rfl | rfl
    · have HE : Hid (opndX X 1 s = .error true) := by show _ = _; unfold opndX; rw [hr]; rfl
      clear hr
      go_enter Tryd.func37, Tryd.ntmps37
      go_wp2_with (first | (go_at_call 56; refine (HR.out _).mono ?_; rintro e w' ⟨rfl, rfl⟩) | (go_at_call 19; refine (afail_any _ _ _ _).mono ?_; rintro e w' ⟨rfl, rfl⟩))
      go_ret
      exact OpDone.text HE.out (by simp) (grown_refl w _)
    · have HE : Hid (opndX X 2 s = .error true) := by show _ = _; unfold opndX; rw [hr]; rfl
      clear hr
      go_enter Tryd.func37, Tryd.ntmps37
      go_wp2_with (first | (go_at_call 56; refine (HR.out _).mono ?_; rintro e w' ⟨rfl, rfl⟩) | (go_at_call 19; refine (afail_any _ _ _ _).mono ?_; rintro e w' ⟨rfl, rfl⟩))
      go_ret
      exact OpDone.text HE.out (by simp) (grown_refl w _)
    · have HE : Hid (opndX X 3 s = .error true) := by show _ = _; unfold opndX; rw [hr]; rfl
      clear hr
      go_enter Tryd.func37, Tryd.ntmps37
      go_wp2_with (first | (go_at_call 56; refine (HR.out _).mono ?_; rintro e w' ⟨rfl, rfl⟩) | (go_at_call 19; refine (afail_any _ _ _ _).mono ?_; rintro e w' ⟨rfl, rfl⟩))
      go_ret
      exact OpDone.text HE.out (by simp) (grown_refl w _)
  · rcases hk with rfl | rfl | rfl
    · have HE : Hid (opndX X 1 s = .ok { X with a := n }) := by show _ = _; unfold opndX; rw [hr]; rfl
      clear hr
      go_enter Tryd.func37, Tryd.ntmps37
      go_wp2_with (go_at_call 56; refine (HR.out _).mono ?_; rintro e w' ⟨rfl, rfl⟩)
      go_ret
      exact OpDone.good _ HE.out (HX.out.set_a n) (grown_set (grown_refl w _) _ _)
    · have HE : Hid (opndX X 2 s = .ok { X with b := n }) := by show _ = _; unfold opndX; rw [hr]; rfl
      clear hr
      go_enter Tryd.func37, Tryd.ntmps37
      go_wp2_with (go_at_call 56; refine (HR.out _).mono ?_; rintro e w' ⟨rfl, rfl⟩)
      go_ret
      exact OpDone.good _ HE.out (HX.out.set_b n) (grown_set (grown_refl w _) _ _)
    · have HE : Hid (opndX X 3 s = .ok { X with c := n }) := by show _ = _; unfold opndX; rw [hr]; rfl
      clear hr
      go_enter Tryd.func37, Tryd.ntmps37
      go_wp2_with (go_at_call 56; refine (HR.out _).mono ?_; rintro e w' ⟨rfl, rfl⟩)
      go_ret
      exact OpDone.good _ HE.out (HX.out.set_c n) (grown_set (grown_refl w _) _ _)

set_option maxHeartbeats 4000000 in
/-- A register or a number, or a number alone, or a cell. -/
theorem opnd_num (s : ByteArray) (hs : s.size ≤ 65536) (kind line : Int) (hk : kind = 4 ∨ kind = 5 ∨ kind = 7 ∨ kind = 6) (pr bx : Nat) (X : Ins) (w : World) (hx : InsAt w bx X) :
    Calls Tryd.prog 37 #[.pointer (some ⟨pr, 0, none⟩), .pointer (some ⟨bx, 0, none⟩), .int .i64 kind, .string s, .int .i64 line] w (OpDone (opndX X kind s) bx line w) := by
  have c2 : w.cell? ⟨bx, 2, none⟩ = some (.int .i64 X.b) := hx.cell 2
  have c3 : w.cell? ⟨bx, 3, none⟩ = some (.int .i64 X.c) := hx.cell 3
  have c4 : w.cell? ⟨bx, 4, none⟩ = some (.int .u64 X.v) := hx.cell 4
  have f2 := hx.free 2
  have f3 := hx.free 3
  have f4 := hx.free 4
  have hlt := hx.lt
  have HX := Lib.hid hx
  clear hx
  have hu : s.size ≤ maxLen := by unfold maxLen; omega
  rcases hr : regV s with ⟨n, b⟩
  have HR := Lib.hid (reg_call s hu n b hr)
  rcases hk with rfl | rfl | rfl | rfl
  · cases b
    · rcases hp : wparse s with j | v
      · have HE : Hid (opndX X 4 s = .error false) := by show _ = _; unfold opndX; rw [hr, hp]; rfl
        have HN := Lib.hid (number_er s hu j hp)
        clear hp hr hu
        go_enter Tryd.func37, Tryd.ntmps37
        go_wp2_with (first | (go_at_call 56; refine (HR.out _).mono ?_; rintro e w' ⟨rfl, rfl⟩) | (go_at_call 57; refine (HN.out _ _).mono ?_; rintro e w' ⟨rfl, rfl⟩))
        go_ret
        exact OpDone.num HE.out (by simp) (by repeat (first | exact grown_refl _ _ | refine grown_set ?_ _ _ | refine grown_alloc ?_ _))
      · have HE : Hid (opndX X 4 s = .ok { ({ X with c := -1 } : Ins) with v := v }) := by show _ = _; unfold opndX; rw [hr, hp]; rfl
        have HN := Lib.hid (number_ok s hu v hp)
        clear hp hr hu
        go_enter Tryd.func37, Tryd.ntmps37
        go_wp2_with (first | (go_at_call 56; refine (HR.out _).mono ?_; rintro e w' ⟨rfl, rfl⟩) | (go_at_call 57; refine (HN.out _ _).mono ?_; rintro e w' ⟨rfl, h0, hv1, rfl⟩))
        go_ret
        exact OpDone.good _ HE.out ((HX.out.set_c (-1)).set_v v) (grown_set (grown_set (grown_refl w _) _ _) _ _)
    · have HE : Hid (opndX X 4 s = .ok { X with c := n }) := by show _ = _; unfold opndX; rw [hr]; rfl
      clear hr hu
      go_enter Tryd.func37, Tryd.ntmps37
      go_wp2_with (go_at_call 56; refine (HR.out _).mono ?_; rintro e w' ⟨rfl, rfl⟩)
      go_ret
      exact OpDone.good _ HE.out (HX.out.set_c n) (grown_set (grown_refl w _) _ _)
  · cases b
    · rcases hp : wparse s with j | v
      · have HE : Hid (opndX X 5 s = .error false) := by show _ = _; unfold opndX; rw [hr, hp]; rfl
        have HN := Lib.hid (number_er s hu j hp)
        clear hp hr hu
        go_enter Tryd.func37, Tryd.ntmps37
        go_wp2_with (first | (go_at_call 56; refine (HR.out _).mono ?_; rintro e w' ⟨rfl, rfl⟩) | (go_at_call 57; refine (HN.out _ _).mono ?_; rintro e w' ⟨rfl, rfl⟩))
        go_ret
        exact OpDone.num HE.out (by simp) (by repeat (first | exact grown_refl _ _ | refine grown_set ?_ _ _ | refine grown_alloc ?_ _))
      · have HE : Hid (opndX X 5 s = .ok { ({ X with b := -1 } : Ins) with v := v }) := by show _ = _; unfold opndX; rw [hr, hp]; rfl
        have HN := Lib.hid (number_ok s hu v hp)
        clear hp hr hu
        go_enter Tryd.func37, Tryd.ntmps37
        go_wp2_with (first | (go_at_call 56; refine (HR.out _).mono ?_; rintro e w' ⟨rfl, rfl⟩) | (go_at_call 57; refine (HN.out _ _).mono ?_; rintro e w' ⟨rfl, h0, hv1, rfl⟩))
        go_ret
        exact OpDone.good _ HE.out ((HX.out.set_b (-1)).set_v v) (grown_set (grown_set (grown_refl w _) _ _) _ _)
    · have HE : Hid (opndX X 5 s = .ok { X with b := n }) := by show _ = _; unfold opndX; rw [hr]; rfl
      clear hr hu
      go_enter Tryd.func37, Tryd.ntmps37
      go_wp2_with (go_at_call 56; refine (HR.out _).mono ?_; rintro e w' ⟨rfl, rfl⟩)
      go_ret
      exact OpDone.good _ HE.out (HX.out.set_b n) (grown_set (grown_refl w _) _ _)
  · rcases hp : wparse s with j | v
    · have HE : Hid (opndX X 7 s = .error false) := by show _ = _; unfold opndX; rw [hr, hp]; rfl
      have HN := Lib.hid (number_er s hu j hp)
      clear hp hr hu
      go_enter Tryd.func37, Tryd.ntmps37
      go_wp2_with (first | (go_at_call 56; refine (HR.out _).mono ?_; rintro e w' ⟨rfl, rfl⟩) | (go_at_call 57; refine (HN.out _ _).mono ?_; rintro e w' ⟨rfl, rfl⟩))
      go_ret
      exact OpDone.num HE.out (by simp) (by repeat (first | exact grown_refl _ _ | refine grown_set ?_ _ _ | refine grown_alloc ?_ _))
    · have HE : Hid (opndX X 7 s = .ok { X with v := v }) := by show _ = _; unfold opndX; rw [hr, hp]; rfl
      have HN := Lib.hid (number_ok s hu v hp)
      clear hp hr hu
      go_enter Tryd.func37, Tryd.ntmps37
      go_wp2_with (first | (go_at_call 56; refine (HR.out _).mono ?_; rintro e w' ⟨rfl, rfl⟩) | (go_at_call 57; refine (HN.out _ _).mono ?_; rintro e w' ⟨rfl, h0, hv1, rfl⟩))
      go_ret
      exact OpDone.good _ HE.out ((HX.out).set_v v) (grown_set (grown_refl w _) _ _)
  · have HE : Hid (opndX X 6 s = cellV X s) := by show _ = _; unfold opndX; rfl
    clear hr hu
    rcases hc : cellV X s with t | X'
    · have HC := Lib.hid (show Calls Tryd.prog 58 #[.pointer (some ⟨bx, 0, none⟩), .string s, .int .i64 line] w (OpDone (.error t) bx line w) from hc ▸ cell_any s hs line bx X w HX.out)
      have HE2 : Hid (opndX X 6 s = .error t) := HE.out.trans hc
      clear hc
      go_enter Tryd.func37, Tryd.ntmps37
      go_wp2_with (first | (go_at_call 56; refine (HR.out _).mono ?_; rintro e w' ⟨rfl, rfl⟩) | (go_at_call 58; refine HC.out.mono ?_; rintro e w' ⟨v, rfl, h1, h2⟩))
      go_ret
      rw [HE2.out]
      exact ⟨v, rfl, h1, h2⟩
    · have HC := Lib.hid (show Calls Tryd.prog 58 #[.pointer (some ⟨bx, 0, none⟩), .string s, .int .i64 line] w (OpDone (.ok X') bx line w) from hc ▸ cell_any s hs line bx X w HX.out)
      have HE2 : Hid (opndX X 6 s = .ok X') := HE.out.trans hc
      clear hc
      go_enter Tryd.func37, Tryd.ntmps37
      go_wp2_with (first | (go_at_call 56; refine (HR.out _).mono ?_; rintro e w' ⟨rfl, rfl⟩) | (go_at_call 58; refine HC.out.mono ?_; rintro e w' ⟨rfl, h1, h2⟩))
      go_ret
      rw [HE2.out]
      exact ⟨rfl, h1, h2⟩
end Go.Proofs.YtnoejikcdigceaaDoor
