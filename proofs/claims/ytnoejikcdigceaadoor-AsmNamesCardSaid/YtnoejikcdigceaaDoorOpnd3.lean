/- asm.reader.operand: contract. -/
import Derived.Test.YtnoejikcdigceaaDoorOpnd2
set_option linter.unusedVariables false
set_option linter.unusedSimpArgs false
namespace Go.Proofs.YtnoejikcdigceaaDoor
open Go.RowKit
set_option maxHeartbeats 4000000 in
theorem opnd_else (s : ByteArray) (hs : s.size ≤ 65536) (kind line : Int) (hk : kind = 8 ∨ kind = 9) (hn : nameV s = false) (pr bx : Nat) (X : Ins) (w : World) (hx : InsAt w bx X) :
    Calls Tryd.prog 37 #[.pointer (some ⟨pr, 0, none⟩), .pointer (some ⟨bx, 0, none⟩), .int .i64 kind, .string s, .int .i64 line] w
      (OpDone (if kind = 8 then .error true else numIn X (wparse s)) bx line w) := by
  have c4 : w.cell? ⟨bx, 4, none⟩ = some (.int .u64 X.v) := hx.cell 4
  have f4 := hx.free 4
  have hlt := hx.lt
  have HX := Lib.hid hx
  clear hx
  have hu : s.size ≤ maxLen := by unfold maxLen; omega
  rcases hr : regV s with ⟨n, b⟩
  have HR := Lib.hid (reg_call s hu n b hr)
  have HM := Lib.hid (named_call s hu false hn)
  clear hr hn
  rcases hk with rfl | rfl
  · rw [if_pos rfl]
    clear hu
    go_enter Tryd.func37, Tryd.ntmps37
    go_wp2_with (first | (go_at_call 56; refine (HR.out _).mono ?_; rintro e w' ⟨rfl, rfl⟩) | (go_at_call 35; refine (HM.out _).mono ?_; rintro e w' ⟨rfl, rfl⟩) | (go_at_call 19; refine (afail_any _ _ _ _).mono ?_; rintro e w' ⟨rfl, rfl⟩))
    go_ret
    exact OpDone.text rfl (by simp) (grown_refl w _)
  · rw [if_neg (by decide)]
    rcases hp : wparse s with j | v
    · have HN := Lib.hid (number_er s hu j hp)
      clear hp hu
      go_enter Tryd.func37, Tryd.ntmps37
      go_wp2_with (first | (go_at_call 56; refine (HR.out _).mono ?_; rintro e w' ⟨rfl, rfl⟩) | (go_at_call 35; refine (HM.out _).mono ?_; rintro e w' ⟨rfl, rfl⟩) | (go_at_call 57; refine (HN.out _ _).mono ?_; rintro e w' ⟨rfl, rfl⟩))
      go_ret
      exact OpDone.num rfl (by simp) (by repeat (first | exact grown_refl _ _ | refine grown_set ?_ _ _ | refine grown_alloc ?_ _))
    · have HN := Lib.hid (number_ok s hu v hp)
      clear hp hu
      go_enter Tryd.func37, Tryd.ntmps37
      go_wp2_with (first | (go_at_call 56; refine (HR.out _).mono ?_; rintro e w' ⟨rfl, rfl⟩) | (go_at_call 35; refine (HM.out _).mono ?_; rintro e w' ⟨rfl, rfl⟩) | (go_at_call 57; refine (HN.out _ _).mono ?_; rintro e w' ⟨rfl, h0, hv1, rfl⟩))
      go_ret
      exact OpDone.good _ rfl (HX.out.set_v v) (grown_set (grown_refl w _) _ _)

theorem operand_any (s : ByteArray) (hs : s.size ≤ 65536) (kind line : Int) (hk1 : 1 ≤ kind) (hk2 : kind ≤ 9) (B p bx : Nat) (st : RdSt) (X : Ins) (w : World)
    (hx : InsAt w bx X) (hrd : RdAt w B p bx st) (hB : B ≤ bx) (hlen : st.wants.length ≤ 1048576) :
    Calls Tryd.prog 37 #[.pointer (some ⟨p, 0, none⟩), .pointer (some ⟨bx, 0, none⟩), .int .i64 kind, .string s, .int .i64 line] w
      (OpndDone (opndV st X kind s line) B p bx line w) := by
  by_cases h8 : 8 ≤ kind
  · have h9 : kind = 8 ∨ kind = 9 := by omega
    by_cases hn : nameV s = true
    · have e : opndV st X kind s line = .ok ({ st with wants := st.wants ++ [((st.code.length : Int), line, s)] }, X) := by
        unfold opndV; rw [if_pos ⟨h8, hn⟩]
      rw [e]
      exact opnd_want s hs kind line h9 hn B p bx st X w hx hrd hB hlen
    · have hn' : nameV s = false := by simpa using hn
      refine (opnd_else s hs kind line h9 hn' p bx X w hx).mono fun e w' h => OpndDone.of h ?_ hrd hx hB
      unfold opndV
      rw [if_neg (fun h => hn h.2)]
      by_cases h : kind = 8
      · rw [if_pos h, if_pos h]; rfl
      · rw [if_neg h, if_neg h]
        have e : opndX X kind s = numIn X (wparse s) := by
          unfold opndX
          rw [if_neg (by omega), if_neg (by omega), if_neg (by omega), if_neg (by omega), if_neg (by omega)]
        rw [e]
  · have e : opndV st X kind s line = withSt st (opndX X kind s) := by
      unfold opndV
      rw [if_neg (fun h => h8 h.1), if_neg (by omega)]
    by_cases h3 : kind ≤ 3
    · exact (opnd_reg s hs kind line (by omega) p bx X w hx).mono fun _ w' h => OpndDone.of h e hrd hx hB
    · exact (opnd_num s hs kind line (by omega) p bx X w hx).mono fun _ w' h => OpndDone.of h e hrd hx hB
end Go.Proofs.YtnoejikcdigceaaDoor
