/-
MatrixNames: a closed sentence: the errors, the limits, at them and one above. No condition.
-/
import Derived.Test.YtidogckochpbgaaMatFns
import Derived.Test.YtidogckochpbgaaQx6
namespace Go.Proofs.Ytidogckochpbgaa.Pure
open Go.RowKit Go.Proofs.Ytidogckochpbgaa.Q Go.Proofs.YtidogckochpbgaaW.PrintWords Go.Proofs.YtidogckochpbgaaW.PrintLast Go.Proofs.YtidogckochpbgaaW.PrintMore Go.Proofs.Ytidogckochpbgaa.R GP
set_option linter.unusedVariables false
set_option linter.unusedSimpArgs false

theorem MatrixNames : culletlaw10_MatrixNames.Pure := by
  apply Ev.rounds
  unfold culletlaw10_MatrixNames.f
  refine Ev.bind (Vandermonde (r := 256) (c := 512) (by decide) (by decide) (by decide) (by decide)) ?_
  refine Ev.bind (Vandermonde_no (.inr (.inl (by decide)))) ?_
  refine Ev.bind (Vandermonde_no (.inr (.inr (.inr (by decide))))) ?_
  simp only [if_true, mat_len, List.length_nil, show (((256 : Nat) : Int) = 256) from rfl, show (((0 : Nat) : Int) = 0) from rfl]
  refine Ev.bind (Check_mat (r := 256) (c := 512) (by decide) (by decide) (by decide) (by decide) vd) ?_
  rw [bne_self_eq_false]
  refine Ev.step (fun k => culletlaw10_MatrixNames.j0.eq_2 _ k) ?_
  simp only [Bool.false_eq_true, if_false]
  refine Ev.bind (Cauchy_mat (r := 255) (c := 1) (by decide) (by decide) (by decide)) ?_
  refine Ev.bind (Cauchy_no (.inr (.inr (.inr (.inr (by decide)))))) ?_
  simp only [if_true, mat_len, List.length_nil, show (((255 : Nat) : Int) = 255) from rfl, show (((0 : Nat) : Int) = 0) from rfl, beq_self_eq_true]
  exact Ev.now _
end Go.Proofs.Ytidogckochpbgaa.Pure
