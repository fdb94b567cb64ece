/-
MatrixCauchy: the determinant of any k rows and k columns of a Cauchy matrix, times the product of all sums of a row's and a column's point, is the product of all differences of the points. The bounds are those within which arguments can be handed in.
-/
import Derived.Test.YtidogckochpbgaaRows
import Derived.Test.YtidogckochpbgaaH13
import Derived.Test.YtidogckochpbgaaOpn
import Derived.WalkKit
import Derived.ProofKit
import Derived.OpenShut
import Derived.ShutString
import Derived.ChangeOld
import Derived.Below
import Derived.SizedLaws
namespace Go.Proofs.Ytidogckochpbgaa.matrixCauchy
open Go.ChangeShapes Go.WideShapes Go.ChangeAt Go.RowKit Go.Proofs.Ytidogckochpbgaa.Opn Go.Proofs.Ytidogckochpbgaa.A Go.Proofs.YtidogckochpbgaaW.PrintWords
open Go.ChangeMaps (open_string shut_string)
set_option linter.unusedVariables false
theorem own : ownKnob Try.prog.godebug = none := by kernel_rfl
theorem laidOut : laidOutB Try.prog = true := by kernel_rfl
abbrev kSq : Kd (Int × Int × List Int × List Int) := Kd.pair (Kd.int .i64) (Kd.pair (Kd.int .i64) (Kd.pair (Kd.slice 3 (Kd.int .i64)) (Kd.slice 3 (Kd.int .i64))))
abbrev okInts (l : List Int) : Prop := l.length * 8 ≤ 140737488351232 ∧ ∀ x ∈ l, (fun x : Int => (Lit.int .i64 x).wf = true) x
theorem opnT30 : Opn Try.prog 30 (Kd.iso kSq id) (fun x => (Lit.int .i64 x.1).wf = true ∧ (Lit.int .i64 x.2.1).wf = true ∧ okInts x.2.2.1 ∧ okInts x.2.2.2) :=
  opn_struct (f := id) (g := id) Try.underlying30 (by kernel_rfl) (opnF_cons rfl (by kernel_rfl) (opn_int Try.underlying3) (opnF_cons rfl (by kernel_rfl) (opn_int Try.underlying3) (opnF_cons rfl (by kernel_rfl) (opn_slice (B := 8) Try.underlying28 (opn_int Try.underlying3) (by kernel_rfl) (by kernel_rfl)) (opnF_last rfl (by kernel_rfl) (opn_slice (B := 8) Try.underlying28 (opn_int Try.underlying3) (by kernel_rfl) (by kernel_rfl)))))) (fun _ => rfl)
set_option maxRecDepth 100000 in
theorem lifted (os : Os) (started : os.Started) (H : Type) (enc : TypeId × Value → H) :
    ReturnsInHanded {} Try.checked os 4 .any (Rows.matrixCauchySpec.pre6 enc Try.prog Try.f4 Rows.matrixCauchyRow.domain false) (Rows.matrixCauchySpec.post enc Try.prog Try.f4 false true false false) := by
  refine returnsInHanded_of_change_sized (C := Try.checked) own started (by kernel_rfl) Try.func4
    (ChangeSpec.witness6 (enc := enc) (C := Try.checked) false ⟨#[], #[.agg #[.int .i64 0, .int .i64 0, .slice none 0 0, .slice none 0 0]], []⟩ 8 (by kernel_rfl) (by kernel_rfl) (by kernel_rfl) (by kernel_rfl)) ?_
  intro W base args ds gs before hval0 hW hcnd hsz0 _
  have hsz : (DataW.weightsEach Try.prog (Try.f4.params.toList ++ Rows.matrixCauchySpec.plain.varTypes Try.prog) (ds ++ gs)).all (· ≤ reachBytes) = true := hsz0
  have hval : ∀ (j : Nat) t v, Try.f4.params[j]? = some t → args[j]? = some v → Value.okWide Try.prog W .any base t v := hval0
  have hW' := hW
  obtain ⟨p, q, hA0, hV, rfl, hfz, hnd⟩ := hW
  have hA : DataW.TrodAll enc Try.prog W 0 (fun _ => true) true Try.f4.params.toList args.toList ds p := hA0
  rw [Try.params4] at hA hval hsz
  obtain ⟨v0, vs0, d0, ds0, p0, q0, hargs, rfl, rfl, h0, r0⟩ := trodAll_cons hA
  obtain ⟨rfl, rfl, rfl⟩ := trodAll_nil r0
  obtain rfl : args = #[v0] := by cases args; simp_all
  obtain ⟨rfl, rfl⟩ := trodVars_none hV
  obtain ⟨cs0, rfl, -⟩ := okWide_struct Try.underlying30 (hval 0 30 v0 rfl rfl)
  have k0 := h0
  have lt0 : ∀ x ∈ p0, x.block < W.heap.size := by obtain ⟨m, hm⟩ := k0; exact DataW.trod_lt m _ _ _ hm
  obtain ⟨⟨R, C, r, c⟩, hK, w1, w2, w3, w4⟩ := param opnT30 hsz (j := 0) (t := 30) rfl rfl h0
  obtain ⟨a1, b1, e1, k1, a2, b2, rfl, k2, a3, b3, rfl, ⟨A2, c2, k3, hc2, hr2⟩, ⟨A3, c3, k4, hc3, hr3⟩⟩ := hK
  have k1' : a1 = [.int .i64 R] := k1
  have k2' : a2 = [.int .i64 C] := k2
  have e2 : cs0.toList = [.int .i64 R, .int .i64 C, .slice A2 r.length c2, .slice A3 c.length c3] := by
    have e3 : cs0.toList = a1 ++ (a2 ++ (a3 ++ b3)) := e1
    rw [e3, k1', k2', k3, k4]; rfl
  obtain rfl : cs0 = #[.int .i64 R, .int .i64 C, .slice A2 r.length c2, .slice A3 c.length c3] := by cases cs0; exact congrArg List.toArray e2
  clear hA0 hval0 hsz0 hsz
  refine (A.MatrixCauchy_walk W R C r c A2 A3 c2 c3 hr2 hc2 hr3 hc3 w1 w2 w3.1 w4.1).mono fun e W' ⟨he, bel⟩ => ?_
  subst he
  exact ⟨_, rfl, _, _, _, [], _, [], hW', trodAll_mk1 (shut_bool Try.underlying4 _), (trodAll_cons_mk (Below.trod laidOut (by kernel_rfl) (of_decide_eq_true (by kernel_rfl)) k0 bel lt0) trodAll_mk0), rfl, bel.frame _, fun h => by cases h⟩
theorem over : Rows.matrixCauchyRow.holds Try.pinned (OpenSpec.ofChange Rows.matrixCauchySpec) :=
  OpenClaim.holds_of_wide 4 Try.f4 rfl rfl rfl rfl rfl rfl rfl ⟨rfl, rfl, rfl, rfl, rfl⟩ rfl rfl rfl rfl rfl (by kernel_rfl) Try.func4 (by kernel_rfl)
    (of_decide_eq_true (by kernel_rfl)) (by unfold Func.isWrapper; first | (rw [if_pos (by decide +kernel)]; kernel_rfl) | (rw [if_neg (by decide +kernel)]; exact ⟨rfl, rfl⟩))
    (fun os started H enc _ => lifted os started H enc)
theorem proved : Rows.MatrixCauchySaid := over
#print axioms proved
end Go.Proofs.Ytidogckochpbgaa.matrixCauchy
namespace Go.Proofs.Ytidogckochpbgaa
/-- The row, under a short name, for the claim. -/
theorem matrixCauchy_holds : Rows.MatrixCauchySaid := matrixCauchy.proved
end Go.Proofs.Ytidogckochpbgaa
