/-
RingDivides: for every a and b DivMod's quotient times the divisor, with the remainder added, is a, the remainder's degree is below the divisor's; by 0: ErrZeroDiv. No condition.
-/
import Derived.Test.YtilacemjflomfaaRingFns3
import Derived.Test.YtilacemjflomfaaQx6
namespace Go.Proofs.Ytilacemjflomfaa.Pure
open Go.RowKit Go.Proofs.Ytilacemjflomfaa.Q Go.Proofs.YtilacemjflomfaaW.PrintWords Go.Proofs.YtilacemjflomfaaW.PrintLast Go.Proofs.YtilacemjflomfaaW.PrintMore Go.Proofs.Ytilacemjflomfaa.R GP
set_option linter.unusedVariables false
set_option linter.unusedSimpArgs false

theorem RingDivides : culletlaw01_RingDivides.Pure := by
  intro x y hx hy
  obtain ⟨a, rfl, ha⟩ := of_u64 hx
  obtain ⟨b, rfl, hb⟩ := of_u64 hy
  apply Ev.rounds
  unfold culletlaw01_RingDivides.f
  refine Ev.bind awake ?_
  simp only [if_true]
  by_cases h0 : b = 0
  · subst h0
    simp only [show ((0 : Nat) : Int) = 0 from rfl, DivMod_zero, Option.bind_some, if_true]
    exact Ev.now _
  · refine Ev.bind (DivMod h0 ha hb) ?_
    have e := div_eq h0 a
    have l := pmod_lt h0 a
    have hb2 := bl_le.2 hb
    have ha2 := bl_le.2 ha
    have hbp := bl_pos.2 h0
    have hq : bl (pquo a b) + bl b ≤ 65 := by
      by_cases hq0 : pquo a b = 0
      · rw [hq0, bl_zero]; omega
      · have e2 := bl_cl hq0 h0
        have hqp := bl_pos.2 hq0
        rw [e, bl_xor_of_lt (by omega)] at ha2
        omega
    have hq64 : pquo a b < 2 ^ 64 := bl_le.1 (by omega)
    simp only [if_neg (show ¬ ((b : Nat) : Int) = 0 by omega)]
    refine Ev.bind (over hq64 hb hq) ?_
    simp only [if_true]
    have hc : cl (pquo a b) b < 2 ^ 64 := by
      have e2 : cl (pquo a b) b = a ^^^ pmod a b := xor_eq_iff.1 e.symm
      rw [e2]
      exact Nat.xor_lt_two_pow ha (pmod_lt64 h0 hb)
    rw [bits_xor64 hc (pmod_lt64 h0 hb), ← e]
    simp only [if_true]
    refine Ev.bind (high (pmod_lt64 h0 hb)) ?_
    refine Ev.bind (high hb) ?_
    rw [decide_eq_true (show ((bl (pmod a b) : Int) - 1 < (bl b : Int) - 1) by omega)]
    exact Ev.now _

end Go.Proofs.Ytilacemjflomfaa.Pure
