/-
PipesTaken, where what it reads is of bulk at most 1048576: a sink holds what was written, in order, up to its failure; a Put that is not whole tells the failure, and behind it nothing more is taken. Conditions: those of the statement alone.
-/
import Derived.Test.YtdgfbamhnmnliaaDoorRows
import Derived.Test.YtdgfbamhnmnliaaDoorCards
import Derived.Test.YtdgfbamhnmnliaaDoorTie
import Derived.Test.YtdgfbamhnmnliaaDoorPipesLaid
import Derived.SevenTiedAt
import Derived.Handed
import Derived.Test.YtdgfbamhnmnliaaDoorPT
import Derived.Test.YtdgfbamhnmnliaaDoorPJ
import Derived.Test.YtdgfbamhnmnliaaDoorOpnB
import Derived.WalkKit
import Derived.ProofKit
import Derived.OpenShut
import Derived.ShutString
import Derived.ChangeOld
import Derived.Below
import Derived.SizedLaws
import Derived.Deep.DeepHandedRow
import Derived.Deep.DeepWitnessRowRef
namespace Go.Proofs.YtdgfbamhnmnliaaDoor.pipesTaken
open Go.ChangeShapes Go.WideShapes Go.ChangeAt Go.RowKit Go.Proofs.YtdgfbamhnmnliaaDoor.Opn Go.Proofs.YtdgfbamhnmnliaaDoor.A Go.Proofs.YtdgfbamhnmnliaaDoorW.PrintWords
open Go.ChangeMaps (open_string shut_string)
set_option linter.unusedVariables false
theorem own : ownKnob Tryd.prog.godebug = none := by kernel_rfl
theorem laidOut : laidOutB Tryd.prog = true := by kernel_rfl
theorem reads (os : Os) {H : Type} (enc : TypeId × Value → H) : ∃ places, DataW.whole enc Tryd.prog ((laidWorld os).forCall (fun _ _ => 0) ⟨#[], #[.int .i64 0, .int .i64 0, .slice none 0 0], []⟩).memory Tryd.f5.params.toList Rows.pipesTakenSpec.vars false #[Value.int .i64 0, .int .i64 0, .slice none 0 0].toList 8 = some ([.lit (.int .i64 0), .lit (.int .i64 0), .nil], [], places) :=
  ⟨[], by kernel_rfl⟩
set_option maxRecDepth 100000 in
theorem lifted (os : Os) (started : os.Started) (H : Type) (enc : TypeId × Value → H) (F : Stop.Interp) :
    ReturnsInHanded {} Tryd.checked os 5 .any ((Rows.OpenSpec.upto Rows.pipesTakenSpec).preRow enc Tryd.prog Tryd.f5 Rows.pipesTakenUptoRow.domain false Rows.pipesTakenUptoRow.laid) (((Rows.OpenSpec.upto Rows.pipesTakenSpec).at F).post enc Tryd.prog Tryd.f5 false true false false) := by
  obtain ⟨places, hx⟩ := reads os enc
  refine returnsInHanded_of_row (C := Tryd.checked) (s := Rows.OpenSpec.upto Rows.pipesTakenSpec) own started (by kernel_rfl) Tryd.func5
    (witness_row_atRef (enc := enc) (C := Tryd.checked) false (laidWorld os) #[.int .i64 0, .int .i64 0, .slice none 0 0] (laidWorld_os os) (by kernel_rfl) (by kernel_rfl) (by kernel_rfl)
      (OpenSpec.preRow_of_cond 8 hx (by kernel_rfl) (fun k hk => by cases hk; kernel_rfl) (by kernel_rfl) (laidWorld_met os _))) ?_
  intro W base args ds gs before hval0 hW hcnd hbulk hsz0 hLaid _ _
  have hsz : (DataW.weightsEach Tryd.prog (Tryd.f5.params.toList ++ Rows.pipesTakenSpec.plain.varTypes Tryd.prog) (ds ++ gs)).all (· ≤ reachBytes) = true := hsz0
  have hbk : Rows.uptoBulkAll (ds ++ gs) ≤ 1048576 := of_decide_eq_true (hbulk _ rfl)
  have hval : ∀ (j : Nat) t v, Tryd.f5.params[j]? = some t → args[j]? = some v → Value.okWide Tryd.prog W .any base t v := hval0
  have hW' := hW
  obtain ⟨p, q, hA0, hV, rfl, hfz, hnd⟩ := hW
  have hA : DataW.TrodAll enc Tryd.prog W 0 (fun _ => true) true Tryd.f5.params.toList args.toList ds p := hA0
  rw [Tryd.params5] at hA hval hsz
  obtain ⟨v0, vs0, d0, ds0, p0, q0, hargs, rfl, rfl, h0, r0⟩ := trodAll_cons hA
  obtain ⟨v1, vs1, d1, ds1, p1, q1, rfl, rfl, rfl, h1, r1⟩ := trodAll_cons r0
  obtain ⟨v2, vs2, d2, ds2, p2, q2, rfl, rfl, rfl, h2, r2⟩ := trodAll_cons r1
  obtain ⟨rfl, rfl, rfl⟩ := trodAll_nil r2
  obtain rfl : args = #[v0, v1, v2] := by cases args; simp_all
  obtain ⟨rfl, rfl⟩ := trodVars_none hV
  obtain ⟨a0, rfl, rfl, rfl, w0⟩ := open_int Tryd.underlying3 (hval 0 3 v0 rfl rfl) h0
  obtain ⟨a1, rfl, rfl, rfl, w1⟩ := open_int Tryd.underlying3 (hval 1 3 v1 rfl rfl) h1
  obtain ⟨A2, len2, cap2, rfl⟩ := okWide_slice Tryd.underlying47 (hval 2 47 v2 rfl rfl)
  have k2 := h2
  have lt2 : ∀ x ∈ p2, x.block < W.heap.size := by obtain ⟨m, hm⟩ := k2; exact DataW.trod_lt m _ _ _ hm
  have hb2 : Rows.uptoBulk d2 ≤ 1048576 := Nat.le_trans (bulk_part (by simp)) hbk
  obtain ⟨l2, rfl, hc2, hr2, hl2, hx2⟩ := param_sliceB (B := 1048576) (opnB_slice (B := 1048576) Tryd.underlying47 (opnB_slice (B := 1048576) Tryd.underlying22 (Opn.toB (opn_int Tryd.underlying5)) (by kernel_rfl)) (by kernel_rfl)) hsz hb2 (j := 2) (t := 47) rfl rfl h2
  have hi1 : -9223372036854775808 ≤ a0 := by have h := w0; unfold Lit.wf at h; rw [Bool.and_eq_true] at h; exact of_decide_eq_true h.1
  have hi2 : a0 ≤ 9223372036854775807 := by have h := w0; unfold Lit.wf at h; rw [Bool.and_eq_true] at h; exact of_decide_eq_true h.2
  clear hA0 hval0 hsz0 hsz
  refine (takenLaw A2 cap2 l2 a0 a1 W hr2 hl2 (fun x hx => (hx2 x hx).1) hi1 hi2).mono fun e W' ⟨he, bel⟩ => ?_
  subst he
  exact ⟨_, rfl, _, _, _, [], _, [], hW', trodAll_mk1 (shut_bool Tryd.underlying4 _), (trodAll_cons_mk (shut_int Tryd.underlying3 w0) (trodAll_cons_mk (shut_int Tryd.underlying3 w1) (trodAll_cons_mk (Below.trod laidOut (by kernel_rfl) (of_decide_eq_true (by kernel_rfl)) k2 bel lt2) trodAll_mk0))), rfl, bel.frame _, fun h => by cases h⟩
theorem over : Rows.PipesTakenUptoSaid :=
  OpenClaim.holds_of_cond 5 Tryd.f5 rfl rfl rfl rfl rfl rfl rfl ⟨rfl, rfl, rfl, rfl, rfl⟩ rfl rfl rfl rfl rfl (by kernel_rfl) Tryd.func5 (by kernel_rfl)
    (of_decide_eq_true (by kernel_rfl)) (by unfold Func.isWrapper; first | (rw [if_pos (by decide +kernel)]; kernel_rfl) | (rw [if_neg (by decide +kernel)]; exact ⟨rfl, rfl⟩))
    (fun os started H enc _ F => by rw [OpenClaim.pre_eq_preRow]; exact lifted os started H enc F)
theorem proved : Rows.PipesTakenUptoCardSaid :=
  Claim7.holds_tied_plain_at .later [] [.sentinel] true (true, "a4190c02faa827d39f381c72abff46faa890fe86ae17e3536cba5519f48c3037") true
    over (fun _ h => by cases h) (by kernel_rfl) (fun _ h => by cases h) pipesTakenUpto_row_tie rfl ⟨rfl, rfl⟩ (by kernel_rfl) rfl
    (fun f fn hf hfn => by
      obtain rfl : f = 5 := Option.some.inj ((show Tryd.prog.funcNamed "cullet/culletlaw22.PipesTaken" = some 5 by kernel_rfl).symm.trans hf) |>.symm
      obtain rfl : fn = Tryd.f5 := (Option.some.inj (Tryd.func5.symm.trans hfn)).symm
      refine ⟨by kernel_rfl, fun j t ht => ?_⟩
      rw [Tryd.params5] at ht
      have hm := List.mem_of_getElem? (by rw [← Array.getElem?_toList] at ht; exact ht)
      exact of_decide_eq_true (List.all_eq_true.1 (show (Tryd.f5.params.toList.all fun t => decide (Tryd.prog.wantsStandIn t = false)) = true by kernel_rfl) t (by rw [Tryd.params5]; exact hm)))
    (by kernel_rfl)
#print axioms proved
end Go.Proofs.YtdgfbamhnmnliaaDoor.pipesTaken
namespace Go.Proofs.YtdgfbamhnmnliaaDoor
/-- The row, under a short name, for the claim. -/
theorem pipesTaken_holds : Rows.PipesTakenUptoCardSaid := pipesTaken.proved
end Go.Proofs.YtdgfbamhnmnliaaDoor
