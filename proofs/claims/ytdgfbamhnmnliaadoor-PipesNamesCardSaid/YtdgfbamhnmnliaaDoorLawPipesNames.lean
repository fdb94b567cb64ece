/-
PipesNames: a closed sentence: errors' numbers, End, the texts of failures; the failures of a source, a sink and a later source are three pointers.
-/
import Derived.Test.YtdgfbamhnmnliaaDoorRows
import Derived.Test.YtdgfbamhnmnliaaDoorCards
import Derived.Test.YtdgfbamhnmnliaaDoorTie
import Derived.Test.YtdgfbamhnmnliaaDoorNamesLaid
import Derived.SevenTiedAt
import Derived.Handed
import Derived.Test.YtdgfbamhnmnliaaDoorPL
import Derived.Test.YtdgfbamhnmnliaaDoorPM
import Derived.Test.YtdgfbamhnmnliaaDoorOpn
import Derived.WalkKit
import Derived.ProofKit
import Derived.OpenShut
import Derived.ShutString
import Derived.ChangeOld
import Derived.Below
import Derived.SizedLaws
namespace Go.Proofs.YtdgfbamhnmnliaaDoor.pipesNames
open Go.ChangeShapes Go.WideShapes Go.ChangeAt Go.RowKit Go.Proofs.YtdgfbamhnmnliaaDoor.Opn Go.Proofs.YtdgfbamhnmnliaaDoor.A Go.Proofs.YtdgfbamhnmnliaaDoorW.PrintWords
open Go.ChangeMaps (open_string shut_string)
set_option linter.unusedVariables false
theorem own : ownKnob Tryd.prog.godebug = none := by kernel_rfl
theorem laidOut : laidOutB Tryd.prog = true := by kernel_rfl
set_option maxRecDepth 100000 in
theorem lifted (os : Os) (started : os.Started) (H : Type) (enc : TypeId × Value → H) :
    ReturnsInHanded {} Tryd.checked os 8 .any (fun w args => (Rows.pipesNamesSpec.pre enc Tryd.prog Tryd.f8 [] false w args ∧ laidMet Tryd.prog laidL w) ∧ sizedMet enc Tryd.prog Tryd.f8 (OpenSpec.ofChange Rows.pipesNamesSpec) false w args) (Rows.pipesNamesSpec.post enc Tryd.prog Tryd.f8 false true false false) := by
  refine returnsInHanded_of_change_and (C := Tryd.checked) (X := fun w _ => laidMet Tryd.prog laidL w) (fun _ _ _ hh h => h.of_heap hh) own started (by kernel_rfl) Tryd.func8
    (ChangeSpec.witness_at (enc := enc) (C := Tryd.checked) (os := os) (X := fun w _ => laidMet Tryd.prog laidL w) false (laidWorld os) #[] 8 (laidWorld_os os) (by kernel_rfl) (by kernel_rfl) (by kernel_rfl) (by kernel_rfl) (by kernel_rfl) (laidWorld_met os _)) ?_
  intro W base args ds gs before hval0 hW hcnd hsz0 hLaid _
  have hsz : (DataW.weightsEach Tryd.prog (Tryd.f8.params.toList ++ Rows.pipesNamesSpec.plain.varTypes Tryd.prog) (ds ++ gs)).all (· ≤ reachBytes) = true := hsz0
  have hval : ∀ (j : Nat) t v, Tryd.f8.params[j]? = some t → args[j]? = some v → Value.okWide Tryd.prog W .any base t v := hval0
  have hW' := hW
  obtain ⟨p, q, hA0, hV, rfl, hfz, hnd⟩ := hW
  have hA : DataW.TrodAll enc Tryd.prog W 0 (fun _ => true) true Tryd.f8.params.toList args.toList ds p := hA0
  rw [Tryd.params8] at hA hval hsz
  obtain ⟨hargs, rfl, rfl⟩ := trodAll_nil hA
  obtain rfl : args = #[] := by cases args; simp_all
  obtain ⟨rfl, rfl⟩ := trodVars_none hV
  obtain ⟨ae, hE, hs⟩ := endText hLaid
  clear hA0 hval0 hsz0 hsz
  refine (namesLaw ae W hE hs (powTab hLaid)).mono fun e W' ⟨he, bel⟩ => ?_
  subst he
  exact ⟨_, rfl, _, _, _, [], _, [], hW', trodAll_mk1 (shut_bool Tryd.underlying4 _), trodAll_mk0, rfl, bel.frame _, fun h => by cases h⟩
theorem over : Rows.pipesNamesRow.holds Tryd.pinned (OpenSpec.ofChange Rows.pipesNamesSpec) :=
  OpenClaim.holds_of_wide 8 Tryd.f8 rfl rfl rfl rfl rfl rfl rfl ⟨rfl, rfl, rfl, rfl, rfl⟩ rfl rfl rfl rfl rfl (by kernel_rfl) Tryd.func8 (by kernel_rfl)
    (of_decide_eq_true (by kernel_rfl)) (by unfold Func.isWrapper; first | (rw [if_pos (by decide +kernel)]; kernel_rfl) | (rw [if_neg (by decide +kernel)]; exact ⟨rfl, rfl⟩))
    (fun os started H enc _ => lifted os started H enc)
theorem proved : Rows.PipesNamesCardSaid :=
  Claim7.holds_tied_plain_at .later [] [.data, .data, .data, .sentinel] true (true, "a4190c02faa827d39f381c72abff46faa890fe86ae17e3536cba5519f48c3037") true
    over (fun _ h => by cases h) (by kernel_rfl) (fun _ h => by cases h) pipesNames_row_tie rfl ⟨rfl, rfl⟩ (by kernel_rfl) rfl
    (fun f fn hf hfn => by
      obtain rfl : f = 8 := Option.some.inj ((show Tryd.prog.funcNamed "cullet/culletlaw22.PipesNames" = some 8 by kernel_rfl).symm.trans hf) |>.symm
      obtain rfl : fn = Tryd.f8 := (Option.some.inj (Tryd.func8.symm.trans hfn)).symm
      refine ⟨by kernel_rfl, fun j t ht => ?_⟩
      rw [Tryd.params8] at ht
      have hm := List.mem_of_getElem? (by rw [← Array.getElem?_toList] at ht; exact ht)
      exact of_decide_eq_true (List.all_eq_true.1 (show (Tryd.f8.params.toList.all fun t => decide (Tryd.prog.wantsStandIn t = false)) = true by kernel_rfl) t (by rw [Tryd.params8]; exact hm)))
    (by kernel_rfl)
#print axioms proved
end Go.Proofs.YtdgfbamhnmnliaaDoor.pipesNames
namespace Go.Proofs.YtdgfbamhnmnliaaDoor
/-- The row, under a short name, for the claim. -/
theorem pipesNames_holds : Rows.PipesNamesCardSaid := pipesNames.proved
end Go.Proofs.YtdgfbamhnmnliaaDoor
