/- What 'laid' says of End; plans as arguments. -/
import Derived.Test.YtdgfbamhnmnliaaDoorPA
import Derived.Test.YtdgfbamhnmnliaaDoorPipesLaid
import Derived.Test.YtdgfbamhnmnliaaDoorOpn
import Derived.Stop.LaidErr
import Derived.LaidLaws
namespace Go.Proofs.YtdgfbamhnmnliaaDoor.A
open Go.RowKit Go.Deep Go.Proofs.YtdgfbamhnmnliaaDoor.Opn Go.Proofs.YtdgfbamhnmnliaaDoorW.PrintWords
set_option linter.unusedVariables false
set_option maxRecDepth 100000
theorem star_err : "*" ++ "errors.errorString" = "*errors.errorString" := by decide
theorem row109 (u : TypeId) (h : Tryd.prog.typeName? 3 u = some "*errors.errorString") : u = 109 :=
  typeName_ptr_named (nm := "errors.errorString") (by rw [star_err]; kernel_rfl) (by kernel_rfl) (by decide) u (by rw [star_err]; exact h)
theorem end_named : Tryd.prog.globalNamed "cullet/pipes.End" = some 0 := by kernel_rfl
theorem endCell {W : World} (h : laidMet Tryd.prog laidL W) : ∃ ae : Addr, W.cell? ⟨0, 0, none⟩ = some (.iface 109 (.pointer (some ae))) := by
  obtain ⟨a, s, hv, -⟩ := laid_sentinel (g := 0) (ti := 34) h end_named (by kernel_rfl) Tryd.underlying34 row109 Tryd.underlying109 Tryd.underlying132 rfl rfl Tryd.underlying9 (by kernel_rfl) (by kernel_rfl)
  exact ⟨a, by simpa using World.var?_cell end_named hv 0⟩
abbrev kPlan : Kd (List Int × List Int × Int × Int) := Kd.pair (Kd.slice 5 (Kd.int .u8)) (Kd.pair (Kd.slice 3 (Kd.int .i64)) (Kd.pair (Kd.int .i64) (Kd.int .i64)))
abbrev okBytes (l : List Int) : Prop := l.length * 1 ≤ 140737488351232 ∧ ∀ x ∈ l, (fun x : Int => (Lit.int .u8 x).wf = true) x
abbrev okInts (l : List Int) : Prop := l.length * 8 ≤ 140737488351232 ∧ ∀ x ∈ l, (fun x : Int => (Lit.int .i64 x).wf = true) x
theorem opnPlan : Opn Tryd.prog 25 (Kd.iso kPlan id) (fun x => okBytes x.1 ∧ okInts x.2.1 ∧ (Lit.int .i64 x.2.2.1).wf = true ∧ (Lit.int .i64 x.2.2.2).wf = true) :=
  opn_struct (f := id) (g := id) Tryd.underlying25 (by kernel_rfl) (opnF_cons rfl (by kernel_rfl) (opn_slice (B := 1) Tryd.underlying22 (opn_int Tryd.underlying5) (by kernel_rfl) (by kernel_rfl)) (opnF_cons rfl (by kernel_rfl) (opn_slice (B := 8) Tryd.underlying23 (opn_int Tryd.underlying3) (by kernel_rfl) (by kernel_rfl)) (opnF_cons rfl (by kernel_rfl) (opn_int Tryd.underlying3) (opnF_last rfl (by kernel_rfl) (opn_int Tryd.underlying3))))) (fun _ => rfl)
theorem wf_le {f : Int} (h : (Lit.int .i64 f).wf = true) : f ≤ 9223372036854775807 := by
  unfold Lit.wf at h
  rw [Bool.and_eq_true] at h
  exact of_decide_eq_true h.2
/-- A plan that came in: its four cells. -/
theorem plan_open {W : World} {x : List Int × List Int × Int × Int} {cs : Array Value} (h : (Kd.iso kPlan id).K W x cs.toList) : ∃ A1 c1 A2 c2, cs = #[.slice A1 x.1.length c1, .slice A2 x.2.1.length c2, .int .i64 x.2.2.1, .int .i64 x.2.2.2] ∧ x.1.length ≤ c1 ∧ Kd.C (Kd.int .u8) W A1 x.1.length x.1 ∧ x.2.1.length ≤ c2 ∧ Kd.C (Kd.int .i64) W A2 x.2.1.length x.2.1 := by
  obtain ⟨a1, b1, e1, ⟨A1, c1, k1, hc1, hr1⟩, a2, b2, rfl, ⟨A2, c2, k2, hc2, hr2⟩, a3, b3, rfl, k3, k4⟩ := h
  have k3' : a3 = [.int .i64 x.2.2.1] := k3
  have k4' : b3 = [.int .i64 x.2.2.2] := k4
  refine ⟨A1, c1, A2, c2, ?_, hc1, hr1, hc2, hr2⟩
  have e2 : cs.toList = [.slice A1 x.1.length c1, .slice A2 x.2.1.length c2, .int .i64 x.2.2.1, .int .i64 x.2.2.2] := by
    have e3 : cs.toList = a1 ++ (a2 ++ (a3 ++ b3)) := e1
    rw [e3, k1, k2, k3', k4']; rfl
  cases cs
  exact congrArg List.toArray e2
end Go.Proofs.YtdgfbamhnmnliaaDoor.A
