/- word.Print, asm.reg, asm.spell: contracts. -/
import Derived.Test.YtnoejikcdigceaaDoorWord
import Derived.Lib.SlBytesRow
set_option linter.unusedVariables false
set_option linter.unusedSimpArgs false
namespace Go.Proofs.YtnoejikcdigceaaDoor
open Go.RowKit
/-- A number's digits. -/
def decGo : Nat → Nat → List UInt8 → List UInt8
  | 0, _, acc => acc
  | f + 1, n, acc => if n / 10 = 0 then UInt8.ofNat (48 + n % 10) :: acc else decGo f (n / 10) (UInt8.ofNat (48 + n % 10) :: acc)
def decL (n : Nat) : List UInt8 := decGo 20 n []
def decB (n : Nat) : ByteArray := ⟨(decL n).toArray⟩
theorem decGo_len : ∀ (f n : Nat) (acc : List UInt8), (decGo f n acc).length ≤ f + acc.length
  | 0, n, acc => by simp [decGo]
  | f + 1, n, acc => by
    unfold decGo
    split
    · simp; omega
    · have := decGo_len f (n / 10) (UInt8.ofNat (48 + n % 10) :: acc); rw [List.length_cons] at this; omega
theorem decB_size (n : Nat) : (decB n).size ≤ 20 := by
  have := decGo_len 20 n []
  show (decB n).data.size ≤ 20
  unfold decB decL
  simpa using this
def u8s (l : List UInt8) : List Value := l.map fun b => Value.int .u8 b.toNat
theorem arr130 : Tryd.prog.arrayLen 130 = 20 := by kernel_rfl
theorem arr130u : Tryd.prog.underlying 130 = some (.array (Tryd.prog.arrayLen 130) (Tryd.prog.elem 130)) := by kernel_rfl
theorem arr130s (W : World) : (sizeOf (Tryd.prog.elem 130)).run Tryd.prog W = .ok 1 W := by kernel_rfl
theorem slice130 (b k : Nat) (h1 : 1 ≤ k) (h2 : k ≤ 20) (W : World) : (Instr.sliceAt 130 (.pointer (some ⟨b, 0, none⟩)) (some (.int .i64 ((k : Int) - 1))) none none).run Tryd.prog W = .ok (.slice (some ⟨b, k - 1, none⟩) (21 - k) (21 - k)) W := by
  rw [run_sliceAt_array_l W 130 ⟨b, 0, none⟩ arr130u .i64 ((k : Int) - 1) (by omega) (by rw [arr130]; omega), arr130s]
  have e : ((k : Int) - 1).toNat = k - 1 := by omega
  simp only [Result.andThen, slicedAt, arr130, e]
  rw [if_neg (by omega), Addr.add_lit]
  congr 2
  · simp
  · omega
  · omega
theorem conv_bytes (W : World) (b o len cap : Nat) (l : List UInt8) (hl : l.length = len) (h : ∀ (i : Nat) (x : UInt8), l[i]? = some x → W.cell? ⟨b, o + i, none⟩ = some (.int .u8 x.toNat)) :
    (convert 75 9 (.slice (some ⟨b, o, none⟩) len cap)).run Tryd.prog W = .ok (.string ⟨l.toArray⟩) W := by
  subst hl
  have := Lib.run_convert_whole (P := Tryd.prog) W 75 5 9 Tryd.underlying75 Tryd.underlying5 Tryd.underlying9 b o ⟨l.toArray⟩ (fun i hi => by
    have hi' : i < l.length := by simpa [ByteArray.size] using hi
    exact h i _ (by rw [List.getElem?_eq_getElem hi']; rfl)) cap
  simpa [ByteArray.size] using this
theorem rowCell0 {w : World} {b i : Nat} {c : Array Value} {t : TypeId} (h : w.heap[b]? = some (.cells c t (0, 0))) : w.cell? ⟨b, i, none⟩ = c[i]? := cell_of_row w b i _ _ _ h
theorem heap_alloc_new' {w : World} {o : Obj} : (w.alloc o).heap[w.heap.size]? = some o := heap_alloc_new w o
set_option maxRecDepth 100000 in
set_option maxHeartbeats 4000000 in
theorem wordPrint_any (n : Nat) (hn : n ≤ 18446744073709551615) (w : World) : Calls Tryd.prog 45 #[.int .u64 n] w fun e w' => e = .returned (.string (decB n)) ∧ Below w.heap.size w w' := by
  go_enter Tryd.func45, Tryd.ntmps45
  go_wp2
  have HW : Hid (w = w) := rfl
  go_loopw [0, 4] (fun v i wr => ∃ (k m : Nat) (acc : List UInt8) (c : Array Value), i = .int .i64 k ∧ v = .int .u64 m ∧ 1 ≤ k ∧ k ≤ 20 ∧ m < 10 ^ k ∧ m ≤ n ∧ c.size = 20 ∧ Hid (c.toList.drop k = u8s acc) ∧ acc.length = 20 - k ∧ wr = w.alloc (.cells c 130) ∧ Hid (decGo k m acc = decL n)) (fun _ i _ => (intOf i).toNat)
  case atStart =>
    refine ⟨20, n, [], _, rfl, rfl, by omega, by omega, ?_, Nat.le_refl _, ?_, ?_, rfl, rfl, rfl⟩
    · have : (10 : Nat) ^ 20 = 100000000000000000000 := by decide
      omega
    · rfl
    · rfl
  case round =>
    obtain ⟨k, m, acc, c, rfl, rfl, hk1, hk2, hm, hmn, hc, HD, hacc, rfl, HG⟩ := hrel
    have hmx : (m : Int) ≤ 18446744073709551615 := by omega
    have HDG : Hid (m / 10 < 10 ^ (k - 1)) := by
      show _ < _
      refine Nat.div_lt_of_lt_mul ?_
      rw [show k = (k - 1) + 1 from by omega, Nat.pow_succ] at hm
      omega
    have hd0 : (0 : Int) ≤ (m : Int) % 10 := by omega
    have hd1 : (m : Int) % 10 ≤ 9 := by omega
    have hb1 : UInt8.ofNat (48 + m % 10) = UInt8.ofNat (48 + m % 10) := rfl
    have HB : Hid ((((UInt8.ofNat (48 + m % 10)).toNat : Nat) : Int) = 48 + (m : Int) % 10) := by
      show _ = _
      rw [UInt8.toNat_ofNat']
      omega
    clear hb1
    have HDR : Hid (∀ x : Value, x = .int .u8 (48 + (m : Int) % 10) → (c.setIfInBounds (k - 1) x).toList.drop (k - 1) = u8s (UInt8.ofNat (48 + m % 10) :: acc)) := by
      intro x hx
      rw [Array.toList_setIfInBounds, List.drop_set, if_neg (by omega), Nat.sub_self]
      have e : c.toList.drop (k - 1) = c.toList[k - 1]'(by simp; omega) :: c.toList.drop k := by
        rw [List.drop_eq_getElem_cons (by simp; omega), show k - 1 + 1 = k from by omega]
      rw [e, List.set_cons_zero, HD.out, hx]
      unfold u8s
      rw [List.map_cons, HB.out]
    have hk3 : k - 1 < 20 := by omega
    have hck : k - 1 < c.size := by omega
    have hcc : (w.alloc (.cells c 130)).cell? ⟨w.heap.size, k - 1, none⟩ = some (c[k - 1]'hck) := by
      rw [rowCell0 heap_alloc_new']; simp [hck]
    by_cases hz : m / 10 = 0
    · have HGE : Hid (decL n = UInt8.ofNat (48 + m % 10) :: acc) := by
        show _ = _
        rw [← HG.out, show k = (k - 1) + 1 from by omega, decGo, if_pos hz]
      have hsl := slice130 w.heap.size k hk1 hk2
      have hcv := conv_bytes (w.alloc (.cells (c.setIfInBounds (k - 1) (.int .u8 (48 + (m : Int) % 10))) 130)) w.heap.size (k - 1) (21 - k) (21 - k) (decL n) (by rw [HGE.out, List.length_cons, hacc]; omega) (fun i x hx => by
        rw [rowCell0 heap_alloc_new']
        have h2 := HDR.out _ rfl
        rw [← HGE.out] at h2
        have h3 : ((c.setIfInBounds (k - 1) (Value.int .u8 (48 + (m : Int) % 10))).toList.drop (k - 1))[i]? = some (.int .u8 x.toNat) := by
          rw [h2]; unfold u8s; rw [List.getElem?_map, hx]; rfl
        rw [List.getElem?_drop, Array.getElem?_toList] at h3
        exact h3)
      have hzi : (m : Int) / 10 = 0 := by omega
      clear HGE HDR HD
      go_wp2
      go_ret
      exact ⟨rfl, (Below.refl _ _).alloc (Nat.le_refl _) _⟩
    · have HGE : Hid (decGo (k - 1) (m / 10) (UInt8.ofNat (48 + m % 10) :: acc) = decL n) := by
        show _ = _
        rw [← HG.out, show k = (k - 1) + 1 from by omega, decGo, if_neg hz, Nat.add_sub_cancel]
      have hzi : (((m : Int) / 10) == 0) = false := by rw [beq_eq_false_iff_ne]; omega
      have hk4 : 2 ≤ k := by
        have := HDG.out
        by_cases h1 : k = 1
        · subst h1; simp at this; omega
        · omega
      have HDR2 := Lib.hid (HDR.out _ rfl)
      clear HDR hz
      go_wp2
      go_roundw
      case rel => exact ⟨k - 1, m / 10, _, _, by go_num, by go_num, by omega, by omega, HDG.out, by omega, by simp [hc], HDR2.out, by simp [hacc]; omega, rfl, HGE.out⟩
      case measure => simp [intOf]; omega
theorem reg_any (n : Nat) (hn : n ≤ 31) (w : World) : Calls Tryd.prog 47 #[.int .i64 n] w fun e w' => e = .returned (.string (⟨#[114]⟩ ++ decB n)) ∧ Below w.heap.size w w' := by
  go_enter Tryd.func47, Tryd.ntmps47
  go_wp2_with fail
  refine (wordPrint_any n (by omega) w).mono ?_
  rintro e w' ⟨rfl, hb⟩
  have HB := Lib.hid hb
  have hds := decB_size n
  clear hb
  go_wp2
  go_ret
  exact ⟨rfl, HB.out⟩
theorem spell_any (n : Nat) (hn : n ≤ 18446744073709551615) (w : World) : Calls Tryd.prog 25 #[.int .u64 n] w fun e w' => e = .returned (.string (⟨#[112]⟩ ++ decB n)) ∧ Below w.heap.size w w' := by
  have HN : Hid (n ≤ 18446744073709551615) := hn
  clear hn
  go_enter Tryd.func25, Tryd.ntmps25
  go_wp2_with fail
  refine (wordPrint_any n HN.out w).mono ?_
  rintro e w' ⟨rfl, hb⟩
  have HB := Lib.hid hb
  have hds := decB_size n
  clear hb
  go_wp2
  go_ret
  exact ⟨rfl, HB.out⟩
end Go.Proofs.YtnoejikcdigceaaDoor
