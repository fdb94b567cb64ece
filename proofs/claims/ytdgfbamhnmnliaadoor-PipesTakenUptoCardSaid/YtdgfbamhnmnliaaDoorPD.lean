/- Errors: errors.Is, own, is. -/
import Derived.Test.YtdgfbamhnmnliaaDoorPC
import Derived.Test.YtdgfbamhnmnliaaDoorChecked
import Derived.WalkKit
import Derived.LaidEql
import Derived.Stop.Asserts
import Derived.RowKitTokens
namespace Go.Proofs.YtdgfbamhnmnliaaDoor.A
open Go.RowKit Go.Deep Go.Extern.Stop Go.Stop Go.Extern Go.Proofs.YtdgfbamhnmnliaaDoor.R Go.Proofs.YtdgfbamhnmnliaaDoorW.PrintWords Go.Proofs.YtdgfbamhnmnliaaDoorW.PrintLast Go.Proofs.YtdgfbamhnmnliaaDoorW.PrintMore
set_option linter.unusedVariables false
set_option linter.unusedSimpArgs false
theorem typeOf45 (v : Value) (w : World) : (Extern.ReflectliteType.typeOf #[.iface 45 v]).run Tryd.prog w = .ok (.iface 82 (.agg #[.pointer (some ⟨4, 45, none⟩)])) w := by kernel_rfl
theorem typeOf59 (v : Value) (w : World) : (Extern.ReflectliteType.typeOf #[.iface 59 v]).run Tryd.prog w = .ok (.iface 82 (.agg #[.pointer (some ⟨4, 59, none⟩)])) w := by kernel_rfl
theorem typeOf109 (v : Value) (w : World) : (Extern.ReflectliteType.typeOf #[.iface 109 v]).run Tryd.prog w = .ok (.iface 82 (.agg #[.pointer (some ⟨4, 109, none⟩)])) w := by kernel_rfl
def cmpX : Array Value → Sem Value := Extern.ReflectliteType.method fun t => do Extern.Rtype.noPackHeld "Comparable" t; pure (.bool (← typeInfo t).comparable)
theorem methC (v : Value) (w : World) : (Go.method 244 82 v "Comparable").run Tryd.prog w = .ok (69, v) w := by kernel_rfl
theorem comp45 (w : World) : (cmpX #[.agg #[.pointer (some ⟨4, 45, none⟩)]]).run Tryd.prog w = .ok (.bool true) w := by kernel_rfl
theorem comp59 (w : World) : (cmpX #[.agg #[.pointer (some ⟨4, 59, none⟩)]]).run Tryd.prog w = .ok (.bool true) w := by kernel_rfl
theorem comp109 (w : World) : (cmpX #[.agg #[.pointer (some ⟨4, 109, none⟩)]]).run Tryd.prog w = .ok (.bool true) w := by kernel_rfl
theorem eq45 (w : World) : (binOp .eql 34 (.iface 45 (.int .i64 1)) (.iface 45 (.int .i64 1))).run Tryd.prog w = .ok (.bool true) w := by kernel_rfl
theorem isComp59 : (Tryd.prog.info? 59).map (·.comparable) = some true := by kernel_rfl
theorem isComp109 : (Tryd.prog.info? 109).map (·.comparable) = some true := by kernel_rfl
theorem isSize61 : (Tryd.prog.info? 61).map (·.size) = some 1 := by kernel_rfl
theorem isSize132 : (Tryd.prog.info? 132).map (·.size) = some 1 := by kernel_rfl
set_option maxHeartbeats 4000000 in
set_option maxRecDepth 100000 in
theorem is_nilErr (w : World) : Calls Tryd.prog 18 #[.iface 45 (.int .i64 1), .iface 45 (.int .i64 1)] w fun e w' => e = .returned (.bool true) ∧ w = w' := by
  have h8 := @run_callFunc_extern Tryd.prog 31 _ Extern.ReflectliteType.typeOf Tryd.func31 (by kernel_rfl) (by kernel_rfl) (by kernel_rfl) (by kernel_rfl)
  have h32 := @run_callFunc_extern Tryd.prog 69 _ cmpX Tryd.func69 (by kernel_rfl) (by kernel_rfl) (by kernel_rfl) (by kernel_rfl)
  have tT := typeOf45
  have cT := comp45
  have heq := eq45
  have mR := methC
  go_enter Tryd.func18, Tryd.ntmps18
  go_wp2
  refine wp_loop_rounds 1 ?_
  rw [rounds_succ]
  go_wp2
  go_ret
  exact ⟨rfl, rfl⟩
set_option maxHeartbeats 4000000 in
set_option maxRecDepth 100000 in
theorem is_same59 (a : Addr) (w : World) : Calls Tryd.prog 18 #[.iface 59 (.pointer (some a)), .iface 59 (.pointer (some a))] w fun e w' => e = .returned (.bool true) ∧ w = w' := by
  obtain ⟨i, hi, hcmp⟩ := Option.map_eq_some_iff.1 isComp59
  obtain ⟨j, hj, hjs⟩ := Option.map_eq_some_iff.1 isSize61
  have h8 := @run_callFunc_extern Tryd.prog 31 _ Extern.ReflectliteType.typeOf Tryd.func31 (by kernel_rfl) (by kernel_rfl) (by kernel_rfl) (by kernel_rfl)
  have h32 := @run_callFunc_extern Tryd.prog 69 _ cmpX Tryd.func69 (by kernel_rfl) (by kernel_rfl) (by kernel_rfl) (by kernel_rfl)
  have tT := typeOf59
  have cT := comp59
  have mR := methC
  have heq := run_eql_iface_ptr_same (P := Tryd.prog) w a Tryd.underlying34 Tryd.underlying59 hi hcmp hj
  go_enter Tryd.func18, Tryd.ntmps18
  go_wp2
  refine wp_loop_rounds 1 ?_
  rw [rounds_succ]
  go_wp2
  go_ret
  exact ⟨rfl, rfl⟩
set_option maxHeartbeats 4000000 in
set_option maxRecDepth 100000 in
theorem is_same109 (a : Addr) (w : World) : Calls Tryd.prog 18 #[.iface 109 (.pointer (some a)), .iface 109 (.pointer (some a))] w fun e w' => e = .returned (.bool true) ∧ w = w' := by
  obtain ⟨i, hi, hcmp⟩ := Option.map_eq_some_iff.1 isComp109
  obtain ⟨j, hj, hjs⟩ := Option.map_eq_some_iff.1 isSize132
  have h8 := @run_callFunc_extern Tryd.prog 31 _ Extern.ReflectliteType.typeOf Tryd.func31 (by kernel_rfl) (by kernel_rfl) (by kernel_rfl) (by kernel_rfl)
  have h32 := @run_callFunc_extern Tryd.prog 69 _ cmpX Tryd.func69 (by kernel_rfl) (by kernel_rfl) (by kernel_rfl) (by kernel_rfl)
  have tT := typeOf109
  have cT := comp109
  have mR := methC
  have heq := run_eql_iface_ptr_same (P := Tryd.prog) w a Tryd.underlying34 Tryd.underlying109 hi hcmp hj
  go_enter Tryd.func18, Tryd.ntmps18
  go_wp2
  refine wp_loop_rounds 1 ?_
  rw [rounds_succ]
  go_wp2
  go_ret
  exact ⟨rfl, rfl⟩
theorem noIs59 (v : Value) (xT : TypeId) (w : World) : (Instr.typeAssert (.iface 59 v) xT 84 true).run Tryd.prog w = .ok (.tuple #[.nilIface, .bool false]) w := run_typeAssert_lacksB Tryd.underlying84 (by kernel_rfl) (by kernel_rfl) v xT w
theorem noUnwrap59 (v : Value) (xT : TypeId) (w : World) : (Instr.typeAssert (.iface 59 v) xT 87 true).run Tryd.prog w = .ok (.tuple #[.nilIface, .bool false]) w := run_typeAssert_lacksB Tryd.underlying87 (by kernel_rfl) (by kernel_rfl) v xT w
theorem noUnwraps59 (v : Value) (xT : TypeId) (w : World) : (Instr.typeAssert (.iface 59 v) xT 88 true).run Tryd.prog w = .ok (.tuple #[.nilIface, .bool false]) w := run_typeAssert_lacksB Tryd.underlying88 (by kernel_rfl) (by kernel_rfl) v xT w
set_option maxHeartbeats 4000000 in
set_option maxRecDepth 100000 in
theorem is_other59 (a b : Addr) (ca cb : Array Value) (ta tb : TypeId) (w : World) (hne : a ≠ b) (ha : w.heap[a.block]? = some (.cells ca ta (0, 0))) (hb : w.heap[b.block]? = some (.cells cb tb (0, 0))) :
    Calls Tryd.prog 18 #[.iface 59 (.pointer (some a)), .iface 59 (.pointer (some b))] w fun e w' => e = .returned (.bool false) ∧ w = w' := by
  obtain ⟨i, hi, hcmp⟩ := Option.map_eq_some_iff.1 isComp59
  obtain ⟨j, hj, hjs⟩ := Option.map_eq_some_iff.1 isSize61
  have h8 := @run_callFunc_extern Tryd.prog 31 _ Extern.ReflectliteType.typeOf Tryd.func31 (by kernel_rfl) (by kernel_rfl) (by kernel_rfl) (by kernel_rfl)
  have h32 := @run_callFunc_extern Tryd.prog 69 _ cmpX Tryd.func69 (by kernel_rfl) (by kernel_rfl) (by kernel_rfl) (by kernel_rfl)
  have tT := typeOf59
  have cT := comp59
  have mR := methC
  have nE := noIs59
  have uE := noUnwrap59
  have vE := noUnwraps59
  have heq := run_eql_iface_ptr_other (P := Tryd.prog) w Tryd.underlying34 Tryd.underlying59 hi hcmp hj (by rw [hjs]; decide) hne ha hb
  clear ha hb hne
  go_enter Tryd.func18, Tryd.ntmps18
  go_wp2
  refine wp_loop_rounds 1 ?_
  rw [rounds_succ]
  go_wp2
  go_ret
  exact ⟨rfl, rfl⟩
/-! own -/
set_option maxRecDepth 100000
theorem own_none (w : World) : Calls Tryd.prog 21 #[.nilIface, .nilIface] w fun e w' => e = .returned (.bool true) ∧ w = w' := by
  go_enter Tryd.func21, Tryd.ntmps21
  go_wp2
  go_ret
  exact ⟨rfl, rfl⟩
theorem own_left (v : Value) (w : World) : Calls Tryd.prog 21 #[.iface 59 v, .nilIface] w fun e w' => e = .returned (.bool false) ∧ w = w' := by
  go_enter Tryd.func21, Tryd.ntmps21
  go_wp2
  go_ret
  exact ⟨rfl, rfl⟩
theorem own_same (a : Addr) (w : World) : Calls Tryd.prog 21 #[.iface 59 (.pointer (some a)), .iface 59 (.pointer (some a))] w fun e w' => e = .returned (.bool true) ∧ w = w' := by
  go_enter Tryd.func21, Tryd.ntmps21
  go_wp2_with (first | (go_at_call 18; refine (is_same59 a _).mono ?_; rintro e w' ⟨rfl, rfl⟩))
  go_ret
  exact ⟨rfl, rfl⟩
theorem own_other (a b : Addr) (ca cb : Array Value) (ta tb : TypeId) (w : World) (hne : a ≠ b) (ha : w.heap[a.block]? = some (.cells ca ta (0, 0))) (hb : w.heap[b.block]? = some (.cells cb tb (0, 0))) : Calls Tryd.prog 21 #[.iface 59 (.pointer (some a)), .iface 59 (.pointer (some b))] w fun e w' => e = .returned (.bool false) ∧ w = w' := by
  have H := Aside0.mk (And.intro hne (And.intro ha hb))
  clear hne ha hb
  go_enter Tryd.func21, Tryd.ntmps21
  go_wp2_with (first | (go_at_call 18; refine (is_other59 a b ca cb ta tb _ H.out.1 H.out.2.1 H.out.2.2).mono ?_; rintro e w' ⟨rfl, rfl⟩))
  go_ret
  exact ⟨rfl, rfl⟩
/-! is -/
theorem isw_none (v : Value) (w : World) : Calls Tryd.prog 14 #[.nilIface, .int .i64 0, v] w fun e w' => e = .returned (.bool true) ∧ w = w' := by
  go_enter Tryd.func14, Tryd.ntmps14
  go_wp2
  go_ret
  exact ⟨rfl, rfl⟩
theorem isw_end (a : Addr) (v : Value) (w : World) (hE : w.cell? ⟨0, 0, none⟩ = some (.iface 109 (.pointer (some a)))) : Calls Tryd.prog 14 #[.iface 109 (.pointer (some a)), .int .i64 1, v] w fun e w' => e = .returned (.bool true) ∧ w = w' := by
  go_enter Tryd.func14, Tryd.ntmps14
  go_wp2_with (first | (go_at_call 18; refine (is_same109 a _).mono ?_; rintro e w' ⟨rfl, rfl⟩))
  go_ret
  exact ⟨rfl, rfl⟩
theorem isw_fail (a : Addr) (w : World) : Calls Tryd.prog 14 #[.iface 59 (.pointer (some a)), .int .i64 2, .iface 59 (.pointer (some a))] w fun e w' => e = .returned (.bool true) ∧ w = w' := by
  go_enter Tryd.func14, Tryd.ntmps14
  go_wp2_with (first | (go_at_call 21; refine (own_same a _).mono ?_; rintro e w' ⟨rfl, rfl⟩))
  go_ret
  exact ⟨rfl, rfl⟩
end Go.Proofs.YtdgfbamhnmnliaaDoor.A
