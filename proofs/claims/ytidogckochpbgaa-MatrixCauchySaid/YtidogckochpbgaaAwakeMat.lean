/- awake of layer 10. -/
import Derived.Test.YtidogckochpbgaaLawMat
import Derived.Test.YtidogckochpbgaaQx2
namespace Go.Proofs.Ytidogckochpbgaa.R
open Go.RowKit Go.Proofs.YtidogckochpbgaaW.PrintWords Go.Proofs.YtidogckochpbgaaW.PrintLast Go.Proofs.YtidogckochpbgaaW.PrintMore Go.Proofs.Ytidogckochpbgaa.A Go.Proofs.Ytidogckochpbgaa.Q GP
set_option linter.unusedVariables false
set_option linter.unusedSimpArgs false
theorem awake_cau : mat 1 2 (cau 2) = ([[142, 244]] : List (List Int)) := by decide +kernel
theorem awake_vd : mat 3 3 vd = ([[1, 0, 0], [1, 1, 1], [1, 2, 4]] : List (List Int)) := by decide +kernel
theorem Awake : Ev (fun k => culletlaw10_awake.f k) true := by
  unfold culletlaw10_awake.f
  have c := Cauchy_mat (r := 1) (c := 2) (by decide) (by decide) (by decide)
  rw [awake_cau] at c
  refine Ev.bind c ?_
  simp only [if_true]
  refine Ev.bind (Same_self (l := [[142, 244]]) (by decide) (by decide)) ?_
  simp only [Bool.not_true]
  refine Ev.step (fun k => culletlaw10_awake.j0.eq_2 _ k) ?_
  simp only [Bool.false_eq_true, if_false]
  have v := Vandermonde (r := 3) (c := 3) (by decide) (by decide) (by decide) (by decide)
  rw [awake_vd] at v
  refine Ev.bind v ?_
  simp only [if_true]
  exact Ev.bind (Same_self (l := [[1, 0, 0], [1, 1, 1], [1, 2, 4]]) (by decide) (by decide)) (Ev.now _)
end Go.Proofs.Ytidogckochpbgaa.R
