import Derived.Test.YthldahaimcdejaaDoorRows
import Derived.Test.YthldahaimcdejaaDoorCards
import Derived.Test.YthldahaimcdejaaDoorTie
import Derived.Test.YthldahaimcdejaaDoorRingLaid
import Derived.SevenTiedAt
import Derived.Handed
import Derived.Test.YthldahaimcdejaaDoorLx5
import Derived.Test.YthldahaimcdejaaDoorPureRingAll
import Derived.Test.YthldahaimcdejaaDoorOpn
import Derived.WalkKit
import Derived.ProofKit
import Derived.OpenShut
import Derived.ShutString
import Derived.ChangeOld
import Derived.Below
import Derived.SizedLaws
-- Printed for this claim by mp.py, a program of its prover, through the kit's print. Lean checks it.
namespace Go.Proofs.YthldahaimcdejaaDoor.ringAll
open Go.ChangeShapes Go.WideShapes Go.ChangeAt Go.RowKit Go.Proofs.YthldahaimcdejaaDoor.Opn Go.Proofs.YthldahaimcdejaaDoor.L Go.Proofs.YthldahaimcdejaaDoorW.PrintWords
open Go.ChangeMaps (open_string shut_string)
set_option linter.unusedVariables false
theorem own : ownKnob Tryd.prog.godebug = none := by kernel_rfl
theorem laidOut : laidOutB Tryd.prog = true := by kernel_rfl
theorem opnT26 : Opn Tryd.prog 26 k26 okT26 := opn_struct (g := fun x => (⟨x.1, x.2.1, x.2.2.1, x.2.2.2.1, x.2.2.2.2⟩ : S26)) Tryd.underlying26 (by kernel_rfl) (opnF_cons rfl (by kernel_rfl) (opn_int Tryd.underlying3) (opnF_cons rfl (by kernel_rfl) (opn_int Tryd.underlying24) (opnF_cons rfl (by kernel_rfl) (opn_int Tryd.underlying24) (opnF_cons rfl (by kernel_rfl) (opn_int Tryd.underlying24) (opnF_last rfl (by kernel_rfl) (opn_str Tryd.underlying9)))))) (fun _ => rfl)
set_option maxRecDepth 100000 in
theorem lifted (os : Os) (started : os.Started) (H : Type) (enc : TypeId × Value → H) :
  ReturnsInHanded {} Tryd.checked os 8 .any (fun w args => (Rows.ringAllSpec.pre enc Tryd.prog Tryd.f8 [] false w args ∧ laidMet Tryd.prog laidL w) ∧ sizedMet enc Tryd.prog Tryd.f8 (OpenSpec.ofChange Rows.ringAllSpec) false w args) (Rows.ringAllSpec.post enc Tryd.prog Tryd.f8 false true false false) := by
 refine returnsInHanded_of_change_and (C := Tryd.checked) (X := fun w _ => laidMet Tryd.prog laidL w) (fun _ _ _ hh h => h.of_heap hh) own started (by kernel_rfl) Tryd.func8
  (ChangeSpec.witness_at (enc := enc) (C := Tryd.checked) (os := os) (X := fun w _ => laidMet Tryd.prog laidL w) false (laidWorld os) #[.slice none 0 0] 8 (laidWorld_os os) (by kernel_rfl) (by kernel_rfl) (by kernel_rfl) (by kernel_rfl) (by kernel_rfl) (laidWorld_met os _)) ?_
 intro W base args ds gs before hval0 hW hcnd hsz0 hLaid _
 have hsz : (DataW.weightsEach Tryd.prog (Tryd.f8.params.toList ++ Rows.ringAllSpec.plain.varTypes Tryd.prog) (ds ++ gs)).all (· ≤ reachBytes) = true := hsz0
 have hval : ∀ (j : Nat) t v, Tryd.f8.params[j]? = some t → args[j]? = some v → Value.okWide Tryd.prog W .any base t v := hval0
 have hW' := hW
 obtain ⟨p, q, hA0, hV, rfl, hfz, hnd⟩ := hW
 have hA : DataW.TrodAll enc Tryd.prog W 0 (fun _ => true) true Tryd.f8.params.toList args.toList ds p := hA0
 rw [Tryd.params8] at hA hval hsz
 obtain ⟨v0, vs0, d0, ds0, p0, q0, hargs, rfl, rfl, h0, r0⟩ := trodAll_cons hA
 obtain ⟨rfl, rfl, rfl⟩ := trodAll_nil r0
 obtain rfl : args = #[v0] := by cases args; simp_all
 obtain ⟨rfl, rfl⟩ := trodVars_none hV
 obtain ⟨A0, len0, cap0, rfl⟩ := okWide_slice Tryd.underlying22 (hval 0 22 v0 rfl rfl)
 have k0 := h0
 have lt0 : ∀ x ∈ p0, x.block < W.heap.size := by obtain ⟨m, hm⟩ := k0; exact DataW.trod_lt m _ _ _ hm
 obtain ⟨l0, rfl, hc0, hr0, w0⟩ := param_slice (opn_slice (B := 48) Tryd.underlying22 opnT26 (by kernel_rfl) (by kernel_rfl)) hsz (j := 0) (t := 22) rfl rfl h0
 clear hA0 hval0 hsz0 hsz
 refine (L.culletlaw01_RingAll.walk Pure.RingAll W l0 A0 cap0 hr0 hc0 w0).mono fun e W' ⟨he, bel⟩ => ?_
 subst he
 exact ⟨_, rfl, _, _, _, [], _, [], hW', trodAll_mk1 (shut_bool Tryd.underlying4 _), (trodAll_cons_mk (Below.trod laidOut (by kernel_rfl) (of_decide_eq_true (by kernel_rfl)) k0 bel lt0) trodAll_mk0), rfl, bel.frame _, fun h => by cases h⟩
theorem over : Rows.ringAllRow.holds Tryd.pinned (OpenSpec.ofChange Rows.ringAllSpec) :=
 OpenClaim.holds_of_wide 8 Tryd.f8 rfl rfl rfl rfl rfl rfl rfl ⟨rfl, rfl, rfl, rfl, rfl⟩ rfl rfl rfl rfl rfl (by kernel_rfl) Tryd.func8 (by kernel_rfl)
  (of_decide_eq_true (by kernel_rfl)) (by unfold Func.isWrapper; first | (rw [if_pos (by decide +kernel)]; kernel_rfl) | (rw [if_neg (by decide +kernel)]; exact ⟨rfl, rfl⟩))
  (fun os started H enc _ => lifted os started H enc)
theorem proved : Rows.RingAllCardSaid :=
 Claim7.holds_tied_plain_at .later [] [.data, .data, .data] true (true, "7f99be2c48352895210799d3a3ffd27bac29acd60ad11d407d04c8bd704a2117") false
  over (fun _ h => by cases h) (by kernel_rfl) (fun _ h => by cases h) ringAll_row_tie rfl ⟨rfl, rfl⟩ (by kernel_rfl) rfl
  (fun f fn hf hfn => by
   obtain rfl : f = 8 := Option.some.inj ((show Tryd.prog.funcNamed "cullet/culletlaw01.RingAll" = some 8 by kernel_rfl).symm.trans hf) |>.symm
   obtain rfl : fn = Tryd.f8 := (Option.some.inj (Tryd.func8.symm.trans hfn)).symm
   refine ⟨by kernel_rfl, fun j t ht => ?_⟩
   rw [Tryd.params8] at ht
   have hm := List.mem_of_getElem? (by rw [← Array.getElem?_toList] at ht; exact ht)
   exact of_decide_eq_true (List.all_eq_true.1 (show (Tryd.f8.params.toList.all fun t => decide (Tryd.prog.wantsStandIn t = false)) = true by kernel_rfl) t (by rw [Tryd.params8]; exact hm)))
  (by kernel_rfl)
#print axioms proved
end Go.Proofs.YthldahaimcdejaaDoor.ringAll
namespace Go.Proofs.YthldahaimcdejaaDoor
/-- The row, under a short name, for the claim. -/
theorem ringAll_holds : Rows.RingAllCardSaid := ringAll.proved
end Go.Proofs.YthldahaimcdejaaDoor
