/-
RingGreatest: for every a, b and c Gcd divides both, and of c times both it is c times that. No condition.
-/
import Derived.Test.YtilacemjflomfaaRingFns3
import Derived.Test.YtilacemjflomfaaQx2
namespace Go.Proofs.Ytilacemjflomfaa.Pure
open Go.RowKit Go.Proofs.Ytilacemjflomfaa.Q Go.Proofs.YtilacemjflomfaaW.PrintWords Go.Proofs.YtilacemjflomfaaW.PrintLast Go.Proofs.YtilacemjflomfaaW.PrintMore Go.Proofs.Ytilacemjflomfaa.R GP
set_option linter.unusedVariables false
set_option linter.unusedSimpArgs false

theorem mono_Gcd : Ev (fun k => ring_Gcd.f k 6 5) 3 := Ev.of (fun k => ring_Gcd.mono 6 5 k) (k := 50) (by decide +kernel)
theorem RingGreatest : culletlaw01_RingGreatest.Pure := by
  intro x y z hx hy hz
  obtain ⟨a, rfl, ha⟩ := of_u32 hx
  obtain ⟨b, rfl, hb⟩ := of_u32 hy
  obtain ⟨c, rfl, hc⟩ := of_u32 hz
  apply Ev.rounds
  unfold culletlaw01_RingGreatest.f
  refine Ev.bind mono_Gcd ?_
  simp only [if_true]
  refine Ev.step (fun k => culletlaw01_RingGreatest.j0.eq_2 _ _ _ _ k) ?_
  by_cases h0 : c = 0
  · subst h0
    simp only [show ((0 : Nat) : Int) = 0 from rfl, beq_self_eq_true, if_true]
    refine Ev.bind mono_Gcd ?_
    exact Ev.now _
  · have hc0 : (((c : Nat) : Int) == 0) = false := beq_eq_false_iff_ne.2 (by omega)
    simp only [hc0, Bool.false_eq_true, if_false]
    rw [u64_wrap_nat (show a < 2 ^ 64 by omega), u64_wrap_nat (show b < 2 ^ 64 by omega)]
    refine Ev.bind (gcd (show a < 2 ^ 64 by omega) (show b < 2 ^ 64 by omega)) ?_
    have j1 : ∀ t : Bool, t = decide (a = 0 ∧ b = 0) → Ev (fun k => culletlaw01_RingGreatest.j1 k a b c (pgcd a b : Nat) t) true := by
      intro t ht
      refine Ev.step (fun k => culletlaw01_RingGreatest.j1.eq_2 _ _ _ _ _ k) ?_
      rw [ht]
      by_cases hab : a = 0 ∧ b = 0
      · obtain ⟨rfl, rfl⟩ := hab
        simp only [pgcd_zero, decide_true, and_self, if_true]
        exact Ev.now _
      · simp only [decide_eq_false hab, Bool.false_eq_true, if_false]
        have hg0 : pgcd a b ≠ 0 := fun e => hab (pgcd_eq_zero.1 e)
        have hgl : pgcd a b < 2 ^ 32 := by
          by_cases ha0 : a = 0
          · have hb0 : b ≠ 0 := fun e => hab ⟨ha0, e⟩
            exact bl_le.1 (Nat.le_trans ((pgcd_dv_right a b).bl_le hb0) (bl_le.2 hb))
          · exact bl_le.1 (Nat.le_trans ((pgcd_dv_left a b).bl_le ha0) (bl_le.2 ha))
        rw [u64_wrap_nat (show a < 2 ^ 64 by omega), u64_wrap_nat (show b < 2 ^ 64 by omega)]
        refine Ev.bind (DivMod hg0 (show a < 2 ^ 64 by omega) (show pgcd a b < 2 ^ 64 by omega)) ?_
        refine Ev.bind (DivMod hg0 (show b < 2 ^ 64 by omega) (show pgcd a b < 2 ^ 64 by omega)) ?_
        rw [(pmod_eq_zero hg0).2 (pgcd_dv_left a b), (pmod_eq_zero hg0).2 (pgcd_dv_right a b)]
        simp only [show ((0 : Nat) : Int) = 0 from rfl, if_true]
        rw [decide_eq_false (show ¬ ((pgcd a b : Nat) : Int) > 4294967295 by omega)]
        refine Ev.step (fun k => culletlaw01_RingGreatest.j2.eq_2 _ _ _ _ _ k) ?_
        simp only [Bool.false_eq_true, if_false]
        refine Ev.bind (Mul ha hc) ?_
        refine Ev.bind (Mul hb hc) ?_
        refine Ev.bind (gcd (cl_lt ha hc) (cl_lt hb hc)) ?_
        rw [show ((pgcd a b : Nat) : Int) % 4294967296 = (pgcd a b : Nat) by omega]
        refine Ev.bind (Mul hgl hc) ?_
        rw [cl_comm a, cl_comm b, pgcd_cl, cl_comm c]
        simp only [beq_self_eq_true]
        exact Ev.now _
    by_cases ha0 : a = 0
    · simp only [if_pos (show ((a : Nat) : Int) = 0 by omega)]
      refine j1 _ ?_
      rw [Bool.eq_iff_iff]; simp [ha0]
    · simp only [if_neg (show ¬ ((a : Nat) : Int) = 0 by omega)]
      refine j1 _ ?_
      rw [decide_eq_false (fun k => ha0 k.1)]

end Go.Proofs.Ytilacemjflomfaa.Pure
