/-
PipesPieces: Full hides the pieces: two sources of the same bytes and the same failure, whatever their chunks, give the same bytes and the same kind of error; the bytes are the data in order. Conditions: those of the statement alone.
-/
import Derived.Test.YtdgfbamhnmnliaaDoorRows
import Derived.Test.YtdgfbamhnmnliaaDoorCards
import Derived.Test.YtdgfbamhnmnliaaDoorTie
import Derived.Test.YtdgfbamhnmnliaaDoorPipesLaid
import Derived.SevenTiedAt
import Derived.Handed
import Derived.Test.YtdgfbamhnmnliaaDoorPR
import Derived.Test.YtdgfbamhnmnliaaDoorPJ
import Derived.Test.YtdgfbamhnmnliaaDoorOpn
import Derived.WalkKit
import Derived.ProofKit
import Derived.OpenShut
import Derived.ShutString
import Derived.ChangeOld
import Derived.Below
import Derived.SizedLaws
namespace Go.Proofs.YtdgfbamhnmnliaaDoor.pipesPieces
open Go.ChangeShapes Go.WideShapes Go.ChangeAt Go.RowKit Go.Proofs.YtdgfbamhnmnliaaDoor.Opn Go.Proofs.YtdgfbamhnmnliaaDoor.A Go.Proofs.YtdgfbamhnmnliaaDoorW.PrintWords
open Go.ChangeMaps (open_string shut_string)
set_option linter.unusedVariables false
theorem own : ownKnob Tryd.prog.godebug = none := by kernel_rfl
theorem laidOut : laidOutB Tryd.prog = true := by kernel_rfl
set_option maxRecDepth 100000 in
theorem lifted (os : Os) (started : os.Started) (H : Type) (enc : TypeId × Value → H) :
    ReturnsInHanded {} Tryd.checked os 6 .any (fun w args => (Rows.pipesPiecesSpec.pre enc Tryd.prog Tryd.f6 [] false w args ∧ laidMet Tryd.prog laidL w) ∧ sizedMet enc Tryd.prog Tryd.f6 (OpenSpec.ofChange Rows.pipesPiecesSpec) false w args) (Rows.pipesPiecesSpec.post enc Tryd.prog Tryd.f6 false true false false) := by
  refine returnsInHanded_of_change_and (C := Tryd.checked) (X := fun w _ => laidMet Tryd.prog laidL w) (fun _ _ _ hh h => h.of_heap hh) own started (by kernel_rfl) Tryd.func6
    (ChangeSpec.witness_at (enc := enc) (C := Tryd.checked) (os := os) (X := fun w _ => laidMet Tryd.prog laidL w) false (laidWorld os) #[.agg #[.slice none 0 0, .slice none 0 0, .int .i64 0, .int .i64 0], .slice none 0 0, .slice none 0 0] 8 (laidWorld_os os) (by kernel_rfl) (by kernel_rfl) (by kernel_rfl) (by kernel_rfl) (by kernel_rfl) (laidWorld_met os _)) ?_
  intro W base args ds gs before hval0 hW hcnd hsz0 hLaid _
  have hsz : (DataW.weightsEach Tryd.prog (Tryd.f6.params.toList ++ Rows.pipesPiecesSpec.plain.varTypes Tryd.prog) (ds ++ gs)).all (· ≤ reachBytes) = true := hsz0
  have hval : ∀ (j : Nat) t v, Tryd.f6.params[j]? = some t → args[j]? = some v → Value.okWide Tryd.prog W .any base t v := hval0
  have hW' := hW
  obtain ⟨p, q, hA0, hV, rfl, hfz, hnd⟩ := hW
  have hA : DataW.TrodAll enc Tryd.prog W 0 (fun _ => true) true Tryd.f6.params.toList args.toList ds p := hA0
  rw [Tryd.params6] at hA hval hsz
  obtain ⟨v0, vs0, d0, ds0, p0, q0, hargs, rfl, rfl, h0, r0⟩ := trodAll_cons hA
  obtain ⟨v1, vs1, d1, ds1, p1, q1, rfl, rfl, rfl, h1, r1⟩ := trodAll_cons r0
  obtain ⟨v2, vs2, d2, ds2, p2, q2, rfl, rfl, rfl, h2, r2⟩ := trodAll_cons r1
  obtain ⟨rfl, rfl, rfl⟩ := trodAll_nil r2
  obtain rfl : args = #[v0, v1, v2] := by cases args; simp_all
  obtain ⟨rfl, rfl⟩ := trodVars_none hV
  obtain ⟨cs0, rfl, -⟩ := okWide_struct Tryd.underlying25 (hval 0 25 v0 rfl rfl)
  have k0 := h0
  have lt0 : ∀ x ∈ p0, x.block < W.heap.size := by obtain ⟨m, hm⟩ := k0; exact DataW.trod_lt m _ _ _ hm
  obtain ⟨x0, hK0, w0⟩ := param opnPlan hsz (j := 0) (t := 25) rfl rfl h0
  obtain ⟨A0, cap0, B0, capB0, rfl, hc0, hr0, hcB0, hrB0⟩ := plan_open hK0
  obtain ⟨A1, len1, cap1, rfl⟩ := okWide_slice Tryd.underlying23 (hval 1 23 v1 rfl rfl)
  have k1 := h1
  have lt1 : ∀ x ∈ p1, x.block < W.heap.size := by obtain ⟨m, hm⟩ := k1; exact DataW.trod_lt m _ _ _ hm
  obtain ⟨l1, rfl, hc1, hr1, w1⟩ := param_slice (opn_slice (B := 8) Tryd.underlying23 (opn_int Tryd.underlying3) (by kernel_rfl) (by kernel_rfl)) hsz (j := 1) (t := 23) rfl rfl h1
  obtain ⟨A2, len2, cap2, rfl⟩ := okWide_slice Tryd.underlying23 (hval 2 23 v2 rfl rfl)
  have k2 := h2
  have lt2 : ∀ x ∈ p2, x.block < W.heap.size := by obtain ⟨m, hm⟩ := k2; exact DataW.trod_lt m _ _ _ hm
  obtain ⟨l2, rfl, hc2, hr2, w2⟩ := param_slice (opn_slice (B := 8) Tryd.underlying23 (opn_int Tryd.underlying3) (by kernel_rfl) (by kernel_rfl)) hsz (j := 2) (t := 23) rfl rfl h2
  obtain ⟨ae, hE⟩ := endCell hLaid
  clear hA0 hval0 hsz0 hsz
  refine (piecesLaw A0 B0 A1 A2 cap0 capB0 cap1 cap2 x0.1 x0.2.1 l1 l2 x0.2.2.1 x0.2.2.2 ae W hr0 hrB0 hr1 hr2 hc0 hcB0 hc1 (by have := w0.1.1; omega) (by have := w0.2.1.1; omega) (by have := w1.1; omega) (by have := w2.1; omega) (by have h := w0.2.2.1; unfold Lit.wf at h; rw [Bool.and_eq_true] at h; exact of_decide_eq_true h.1) (wf_le w0.2.2.1) hE).mono fun e W' ⟨he, bel⟩ => ?_
  subst he
  exact ⟨_, rfl, _, _, _, [], _, [], hW', trodAll_mk1 (shut_bool Tryd.underlying4 _), (trodAll_cons_mk (Below.trod laidOut (by kernel_rfl) (of_decide_eq_true (by kernel_rfl)) k0 bel lt0) (trodAll_cons_mk (Below.trod laidOut (by kernel_rfl) (of_decide_eq_true (by kernel_rfl)) k1 bel lt1) (trodAll_cons_mk (Below.trod laidOut (by kernel_rfl) (of_decide_eq_true (by kernel_rfl)) k2 bel lt2) trodAll_mk0))), rfl, bel.frame _, fun h => by cases h⟩
theorem over : Rows.pipesPiecesRow.holds Tryd.pinned (OpenSpec.ofChange Rows.pipesPiecesSpec) :=
  OpenClaim.holds_of_wide 6 Tryd.f6 rfl rfl rfl rfl rfl rfl rfl ⟨rfl, rfl, rfl, rfl, rfl⟩ rfl rfl rfl rfl rfl (by kernel_rfl) Tryd.func6 (by kernel_rfl)
    (of_decide_eq_true (by kernel_rfl)) (by unfold Func.isWrapper; first | (rw [if_pos (by decide +kernel)]; kernel_rfl) | (rw [if_neg (by decide +kernel)]; exact ⟨rfl, rfl⟩))
    (fun os started H enc _ => lifted os started H enc)
theorem proved : Rows.PipesPiecesCardSaid :=
  Claim7.holds_tied_plain_at .later [] [.sentinel] true (true, "a4190c02faa827d39f381c72abff46faa890fe86ae17e3536cba5519f48c3037") true
    over (fun _ h => by cases h) (by kernel_rfl) (fun _ h => by cases h) pipesPieces_row_tie rfl ⟨rfl, rfl⟩ (by kernel_rfl) rfl
    (fun f fn hf hfn => by
      obtain rfl : f = 6 := Option.some.inj ((show Tryd.prog.funcNamed "cullet/culletlaw22.PipesPieces" = some 6 by kernel_rfl).symm.trans hf) |>.symm
      obtain rfl : fn = Tryd.f6 := (Option.some.inj (Tryd.func6.symm.trans hfn)).symm
      refine ⟨by kernel_rfl, fun j t ht => ?_⟩
      rw [Tryd.params6] at ht
      have hm := List.mem_of_getElem? (by rw [← Array.getElem?_toList] at ht; exact ht)
      exact of_decide_eq_true (List.all_eq_true.1 (show (Tryd.f6.params.toList.all fun t => decide (Tryd.prog.wantsStandIn t = false)) = true by kernel_rfl) t (by rw [Tryd.params6]; exact hm)))
    (by kernel_rfl)
#print axioms proved
end Go.Proofs.YtdgfbamhnmnliaaDoor.pipesPieces
namespace Go.Proofs.YtdgfbamhnmnliaaDoor
/-- The row, under a short name, for the claim. -/
theorem pipesPieces_holds : Rows.PipesPiecesCardSaid := pipesPieces.proved
end Go.Proofs.YtdgfbamhnmnliaaDoor
