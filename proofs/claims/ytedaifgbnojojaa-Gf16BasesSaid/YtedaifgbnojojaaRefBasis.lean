/- The document's basis of Cantor. -/
import Derived.Test.YtedaifgbnojojaaRootL
import Derived.Test.YtedaifgbnojojaaRowsI
import Derived.Test.YtedaifgbnojojaaFx1
namespace Go.Proofs.Ytedaifgbnojojaa.A
open Go.RowKit Go.Proofs.YtedaifgbnojojaaW.PrintWords Go.Proofs.YtedaifgbnojojaaW.PrintLast Go.Proofs.YtedaifgbnojojaaW.PrintMore Go.Proofs.Ytedaifgbnojojaa.R Go.Proofs.Ytedaifgbnojojaa.RI GP Go.Proofs.Ytedaifgbnojojaa.F
set_option linter.unusedVariables false
set_option linter.unusedSimpArgs false
def BI (k : Nat) : List Int := (List.range k).map fun j => ((BL.getD j 0 : Nat) : Int)
theorem BI_getD {k i : Nat} (h : i < k) : (BI k).getD i 0 = ((BL.getD i 0 : Nat) : Int) := by unfold BI; rw [List.getD_eq_getElem?_getD, List.getElem?_map, List.getElem?_range h]; rfl
theorem BI_len (k : Nat) : (BI k).length = k := by simp [BI]
theorem BI_snoc (k : Nat) : BI k ++ [((BL.getD k 0 : Nat) : Int)] = BI (k + 1) := by unfold BI; rw [List.range_succ, List.map_append]; rfl
theorem root_basis {i : Nat} (h : i < 15) : culletref03_Root.f ((BL.getD i 0 : Nat) : Int) = some (((BL.getD (i + 1) 0 : Nat) : Int), (0 : Int)) := by
  have : ∀ i : Fin 15, culletref03_Root.f ((BL.getD i.val 0 : Nat) : Int) = some (((BL.getD (i.val + 1) 0 : Nat) : Int), (0 : Int)) := by decide +kernel
  exact this ⟨i, h⟩
theorem RefBasis : Ev (fun k => culletref03_Basis.f k) (BI 16) := by
  unfold culletref03_Basis.f
  have go : ∀ i, i ≤ 15 → Ev (fun k => culletref03_Basis.l0 k (BI (i + 1)) ((i + 1 : Nat) : Int)) (BI 16) := by
    refine ev_up (L := fun k i => culletref03_Basis.l0 k (BI (i + 1)) ((i + 1 : Nat) : Int)) ?_ ?_
    · refine Ev.step (fun k => culletref03_Basis.l0.eq_2 _ _ k) ?_
      simp only [if_neg (show ¬ ((15 + 1 : Nat) : Int) < 16 by decide)]
      exact Ev.now _
    · intro i hi nx
      refine Ev.step (fun k => culletref03_Basis.l0.eq_2 _ _ k) ?_
      have e1 : wrap64 (((i + 1 : Nat) : Int) - 1) = (i : Int) := by rw [w64 (by omega) (by omega)]; omega
      simp only [if_pos (show ((i + 1 : Nat) : Int) < 16 by omega), e1, if_pos (show (0 : Int) ≤ (i : Int) by omega), BI_len, if_pos (show ((i : Nat) : Int) < ((i + 1 : Nat) : Int) by omega), rd_nat, BI_getD (show i < i + 1 by omega), root_basis hi, Option.bind_some, if_pos (show i + 1 < 70368744177664 by omega), BI_snoc, wr_up (n := i + 1) (by omega)]
      exact nx
  exact go 0 (by omega)
end Go.Proofs.Ytedaifgbnojojaa.A
