/- What the document's functions of the ring compute, first part: degree. -/
import Derived.Test.YthldahaimcdejaaDoorRingFns
import Derived.Test.YthldahaimcdejaaDoorZ2

namespace Go.Proofs.YthldahaimcdejaaDoor.R
open Go.RowKit Go.Proofs.YthldahaimcdejaaDoorW.PrintWords Go.Proofs.YthldahaimcdejaaDoorW.PrintLast Go.Proofs.YthldahaimcdejaaDoorW.PrintMore Go.Proofs.YthldahaimcdejaaDoor.A GP
set_option linter.unusedVariables false
set_option linter.unusedSimpArgs false
theorem rdeg_l0 : ∀ (n a : Nat) (d : Int), bl a ≤ n → -1 ≤ d → d + bl a ≤ 63 → a < 2 ^ 64 → Ev (fun k => culletref01_Degree.l0 k a d) (d + bl a) := by
  intro n
  induction n with
  | zero =>
    intro a d h _ _ _
    have h0 : a = 0 := by have := bl_pos (x := a); omega
    subst h0
    refine Ev.step (fun k => culletref01_Degree.l0.eq_2 _ _ k) ?_
    simp only [if_neg (show ¬ ((0 : Nat) : Int) > 0 by omega)]
    rw [bl_zero, show d + ((0 : Nat) : Int) = d by omega]
    exact Ev.now _
  | succ n ih =>
    intro a d h h1 h2 h3
    by_cases h0 : a = 0
    · subst h0
      refine Ev.step (fun k => culletref01_Degree.l0.eq_2 _ _ k) ?_
      simp only [if_neg (show ¬ ((0 : Nat) : Int) > 0 by omega)]
      rw [bl_zero, show d + ((0 : Nat) : Int) = d by omega]
      exact Ev.now _
    · refine Ev.step (fun k => culletref01_Degree.l0.eq_2 _ _ k) ?_
      simp only [if_pos (show ((a : Nat) : Int) > 0 by omega)]
      have hb := bl_half a
      have hp := bl_pos.2 h0
      have e2 : Int.tdiv ((a : Nat) : Int) 2 = ((a / 2 : Nat) : Int) := by rw [Int.tdiv_eq_ediv_of_nonneg (by omega)]; omega
      rw [e2, u64_wrap_nat (by omega), wrap64_id (by omega) (by omega)]
      have := ih (a / 2) (d + 1) (by omega) (by omega) (by omega) (by omega)
      rw [show d + 1 + ((bl (a / 2) : Nat) : Int) = d + (bl a : Nat) by omega] at this
      exact this
theorem rdeg {a : Nat} (ha : a < 2 ^ 64) : Ev (fun k => culletref01_Degree.f k a) ((bl a : Int) - 1) := by
  unfold culletref01_Degree.f
  have h := bl_le.2 ha
  have := rdeg_l0 _ a (-1) (Nat.le_refl _) (by omega) (by omega) ha
  rw [show (-1 : Int) + (bl a : Nat) = (bl a : Int) - 1 by omega] at this
  exact this
end Go.Proofs.YthldahaimcdejaaDoor.R
