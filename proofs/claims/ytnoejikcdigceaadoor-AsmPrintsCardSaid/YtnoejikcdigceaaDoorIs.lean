/- errors.Is of an *api.At that wraps a kind, and of a bare kind, against a kind; errors.As of a bare kind. -/
import Derived.Test.YtnoejikcdigceaaDoorAs
set_option linter.unusedVariables false
set_option linter.unusedSimpArgs false
namespace Go.Proofs.YtnoejikcdigceaaDoor
open Go.RowKit Go.Extern.Stop Go.Stop Go.Extern
theorem equalIn_kind {P : Program} (w : World) (d : Nat) {ti tn : TypeId} {ms : Array (String × TypeId)} {i : TypeInfo} {k : IntKind} (a b : Int)
    (hi : P.underlying ti = some (.interface ms)) (hn : P.underlying tn = some (.int k)) (hinfo : P.info? tn = some i) (hcomp : i.comparable = true) :
    (Op.equalIn (d + 2) ti (.iface tn (.int k a)) (.iface tn (.int k b))).run P w = .ok (a == b) w := by
  simp [Op.equalIn, run_underlying hi, run_underlying hn, typeInfo, hinfo, hcomp]
theorem eql_kind {P : Program} (w : World) {ti tn : TypeId} {ms : Array (String × TypeId)} {i : TypeInfo} {k : IntKind} (a b : Int)
    (hi : P.underlying ti = some (.interface ms)) (hn : P.underlying tn = some (.int k)) (hinfo : P.info? tn = some i) (hcomp : i.comparable = true) :
    (binOp .eql ti (.iface tn (.int k a)) (.iface tn (.int k b))).run P w = .ok (.bool (a == b)) w := by
  simp only [binOp]
  simp [Op.equal, Op.maxDepth, equalIn_kind w 9998 a b hi hn hinfo hcomp]
theorem Isf.typeOf (v : Value) (w : World) : (Extern.ReflectliteType.typeOf #[.iface 41 v]).run Tryd.prog w = .ok (.iface 119 (.agg #[.pointer (some ⟨4, 41, none⟩)])) w := by kernel_rfl
def Isf.cmp : Array Value → Sem Value := ReflectliteType.method fun t => do Rtype.noPackHeld "Comparable" t; pure (.bool (← typeInfo t).comparable)
theorem Isf.comparable (w : World) : (Isf.cmp #[.agg #[.pointer (some ⟨4, 41, none⟩)]]).run Tryd.prog w = .ok (.bool true) w := by kernel_rfl
theorem Isf.methodComparable (v : Value) (w : World) : (Go.method 279 119 v "Comparable").run Tryd.prog w = .ok (109, v) w := by kernel_rfl
theorem Isf.comp : (Tryd.prog.info? 41).map (·.comparable) = some true := by kernel_rfl
theorem Isf.noIsA (v : Value) (xT : TypeId) (w : World) : (Instr.typeAssert (.iface 68 v) xT 134 true).run Tryd.prog w = .ok (.tuple #[.nilIface, .bool false]) w := run_typeAssert_lacksB Tryd.underlying134 (by kernel_rfl) (by kernel_rfl) v xT w
theorem Isf.unwrapA (v : Value) (xT : TypeId) (w : World) : (Instr.typeAssert (.iface 68 v) xT 126 true).run Tryd.prog w = .ok (.tuple #[.iface 68 v, .bool true]) w := run_typeAssert_hasB Tryd.underlying126 (by kernel_rfl) v xT w
theorem Isf.noIsK (v : Value) (xT : TypeId) (w : World) : (Instr.typeAssert (.iface 41 v) xT 134 true).run Tryd.prog w = .ok (.tuple #[.nilIface, .bool false]) w := run_typeAssert_lacksB Tryd.underlying134 (by kernel_rfl) (by kernel_rfl) v xT w
theorem Isf.noUnwrapK (v : Value) (xT : TypeId) (w : World) : (Instr.typeAssert (.iface 41 v) xT 126 true).run Tryd.prog w = .ok (.tuple #[.nilIface, .bool false]) w := run_typeAssert_lacksB Tryd.underlying126 (by kernel_rfl) (by kernel_rfl) v xT w
theorem Isf.noUnwrapsK (v : Value) (xT : TypeId) (w : World) : (Instr.typeAssert (.iface 41 v) xT 128 true).run Tryd.prog w = .ok (.tuple #[.nilIface, .bool false]) w := run_typeAssert_lacksB Tryd.underlying128 (by kernel_rfl) (by kernel_rfl) v xT w
theorem Isf.noAsK (v : Value) (xT : TypeId) (w : World) : (Instr.typeAssert (.iface 41 v) xT 123 true).run Tryd.prog w = .ok (.tuple #[.nilIface, .bool false]) w := run_typeAssert_lacksB Tryd.underlying123 (by kernel_rfl) (by kernel_rfl) v xT w
theorem Isf.methodUnwrap (v : Value) (w : World) : (Go.method 279 68 v "Unwrap").run Tryd.prog w = .ok (103, v) w := by kernel_rfl
theorem unwrap_any (b : Nat) (x : Value) (w : World) (h : w.cell? ⟨b, 2, none⟩ = some x) : Calls Tryd.prog 103 #[.pointer (some ⟨b, 0, none⟩)] w fun e w' => e = .returned x ∧ w = w' := by
  go_enter Tryd.func103, Tryd.ntmps103
  go_wp2
  go_ret
  exact ⟨rfl, rfl⟩
set_option maxRecDepth 100000 in
set_option maxHeartbeats 4000000 in
theorem is_at (b : Nat) (x k : Int) (w : World) (h : w.cell? ⟨b, 2, none⟩ = some (.iface 41 (.int .i64 x))) (r : Bool) (hr : (x == k) = r) :
    Calls Tryd.prog 39 #[.iface 68 (.pointer (some ⟨b, 0, none⟩)), .iface 41 (.int .i64 k)] w fun e w' => e = .returned (.bool r) ∧ w = w' := by
  obtain ⟨i, hi, hcmp⟩ := Option.map_eq_some_iff.1 Isf.comp
  have h8 := @run_callFunc_extern Tryd.prog 60 _ Extern.ReflectliteType.typeOf Tryd.func60 (by kernel_rfl) (by kernel_rfl) (by kernel_rfl) (by kernel_rfl)
  have h32 := @run_callFunc_extern Tryd.prog 109 _ Isf.cmp Tryd.func109 (by kernel_rfl) (by kernel_rfl) (by kernel_rfl) (by kernel_rfl)
  have tT := Isf.typeOf
  have cT := Isf.comparable
  have mR := Isf.methodComparable
  have nA := Isf.noIsA
  have uA := Isf.unwrapA
  have nK := Isf.noIsK
  have uK := Isf.noUnwrapK
  have vK := Isf.noUnwrapsK
  have mU := Isf.methodUnwrap
  have heq := eql_kind (P := Tryd.prog) w x k Tryd.underlying28 Tryd.underlying41 hi hcmp
  have hty := run_eql_iface_types (P := Tryd.prog) 68 41 (.pointer (some ⟨b, 0, none⟩)) (.int .i64 k) Tryd.underlying28 (by decide) w
  rw [hr] at heq
  clear hi hr
  go_enter Tryd.func39, Tryd.ntmps39
  cases r
  all_goals
    go_wp2
    refine wp_loop_rounds 2 ?_
    rw [rounds_succ]
    go_wp2
    rw [rounds_succ]
    go_wp2
    go_ret
    exact ⟨rfl, rfl⟩
theorem Asf.typeOf41 (v : Value) (w : World) : (ReflectliteType.typeOf #[.iface 41 v]).run Tryd.prog w = .ok (.iface 119 (.agg #[.pointer (some ⟨4, 41, none⟩)])) w := by kernel_rfl
theorem Asf.assignable41 (w : World) : (ReflectliteType.relation "AssignableTo" ReflectliteType.assignableTo #[.agg #[.pointer (some ⟨4, 41, none⟩)], .iface 119 (.agg #[.pointer (some ⟨4, 68, none⟩)])]).run Tryd.prog w = .ok (.bool false) w := by kernel_rfl
set_option maxRecDepth 100000 in
set_option maxHeartbeats 4000000 in
theorem as_miss (x : Int) (t : Addr) (w : World) (hg : w.cell? ⟨0, 0, none⟩ = some (.iface 119 (.agg #[.pointer (some ⟨4, 28, none⟩)]))) :
    Calls Tryd.prog 23 #[.iface 41 (.int .i64 x), .iface 70 (.pointer (some t))] w fun ev w' => ev = .returned (.bool false) ∧ w' = (((w.alloc (.cells #[.pointer (some t)] 70)).alloc (.cells #[.pointer (some ⟨4, 70, none⟩), .pointer (some ⟨w.heap.size, 0, none⟩), .int .u64 150] 93)).alloc (.cells #[.pointer (some ⟨4, 70, none⟩), .pointer (some ⟨w.heap.size, 0, none⟩), .int .u64 150] 93)) := by
  have h6 := @run_callFunc_extern Tryd.prog 40 _ (fun args => ReflectliteValue.unpack (args.getD 0 (.tuple #[]))) Tryd.func40 (by kernel_rfl) (by kernel_rfl) (by kernel_rfl) (by kernel_rfl)
  have h7 := @run_callFunc_extern Tryd.prog 41 _ (ReflectliteValue.methodAny (ReflectliteValue.valueError "reflectlite.Value.Type" 0) (fun t _ _ _ => ReflectliteType.toType t)) Tryd.func41 (by kernel_rfl) (by kernel_rfl) (by kernel_rfl) (by kernel_rfl)
  have h8 := @run_callFunc_extern Tryd.prog 42 _ (ReflectliteValue.method (ReflectliteValue.valueError "reflectlite.Value.IsNil" 0) ReflectliteValue.isNil) Tryd.func42 (by kernel_rfl) (by kernel_rfl) (by kernel_rfl) (by kernel_rfl)
  have h27 := @run_callFunc_extern Tryd.prog 98 _ (ReflectliteType.abiMethod fun t => do pure (.int .u8 (← Rtype.kind t))) Tryd.func98 (by kernel_rfl) (by kernel_rfl) (by kernel_rfl) (by kernel_rfl)
  have h37 := @run_callFunc_extern Tryd.prog 110 _ (ReflectliteType.method ReflectliteType.elem) Tryd.func110 (by kernel_rfl) (by kernel_rfl) (by kernel_rfl) (by kernel_rfl)
  have h38 := @run_callFunc_extern Tryd.prog 111 _ (ReflectliteType.relation "Implements" ReflectliteType.implements_) Tryd.func111 (by kernel_rfl) (by kernel_rfl) (by kernel_rfl) (by kernel_rfl)
  have h10 := @run_callFunc_extern Tryd.prog 60 _ ReflectliteType.typeOf Tryd.func60 (by kernel_rfl) (by kernel_rfl) (by kernel_rfl) (by kernel_rfl)
  have h35 := @run_callFunc_extern Tryd.prog 108 _ (ReflectliteType.relation "AssignableTo" ReflectliteType.assignableTo) Tryd.func108 (by kernel_rfl) (by kernel_rfl) (by kernel_rfl) (by kernel_rfl)
  have tO := Asf.typeOf41
  have mA := Asf.methodAssignableTo
  have a41 := Asf.assignable41
  have f6 := Asf.valueOf27
  have f7 := Asf.type27
  have mK := Asf.methodKind
  have mE := Asf.methodElem
  have mI := Asf.methodImplements
  have k27 := Asf.kind27
  have k25 := Asf.kind25
  have e27 := Asf.elem27
  have i25 := Asf.implements25
  have nA := Isf.noAsK
  have uK := Isf.noUnwrapK
  have vK := Isf.noUnwrapsK
  have n8 := Asf.isNil27 ⟨w.heap.size, 0, none⟩ t ((w.alloc (.cells #[.pointer (some t)] 70)).alloc (.cells #[.pointer (some ⟨4, 70, none⟩), .pointer (some ⟨w.heap.size, 0, none⟩), .int .u64 150] 93)) (by simp)
  have hlt : 0 < w.heap.size := by
    rcases Nat.eq_zero_or_pos w.heap.size with h0 | h
    · simp [World.cell?, h0] at hg
    · exact h
  have hg2 : ((w.alloc (.cells #[.pointer (some t)] 70)).alloc (.cells #[.pointer (some ⟨4, 70, none⟩), .pointer (some ⟨w.heap.size, 0, none⟩), .int .u64 150] 93)).cell? ⟨0, 0, none⟩ = some (.iface 119 (.agg #[.pointer (some ⟨4, 28, none⟩)])) := by
    rw [World.cell?_alloc_lt _ _ ⟨0, 0, none⟩ (by simp), World.cell?_alloc_lt _ _ ⟨0, 0, none⟩ hlt]; exact hg
  go_enter Tryd.func23, Tryd.ntmps23
  go_wp2
  refine wp_loop_rounds 1 ?_
  rw [rounds_succ]
  go_wp2
  go_ret
  exact ⟨rfl, rfl⟩
end Go.Proofs.YtnoejikcdigceaaDoor
