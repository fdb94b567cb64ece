/-
RingBezout: for every a and b the factors that Bezout answers make the greatest common divisor and have the least degrees. No condition.
-/
import Derived.Test.YtilacemjflomfaaRingBez
import Derived.Test.YtilacemjflomfaaQx4
namespace Go.Proofs.Ytilacemjflomfaa.Pure
open Go.RowKit Go.Proofs.Ytilacemjflomfaa.Q Go.Proofs.YtilacemjflomfaaW.PrintWords Go.Proofs.YtilacemjflomfaaW.PrintLast Go.Proofs.YtilacemjflomfaaW.PrintMore Go.Proofs.Ytilacemjflomfaa.R GP
set_option linter.unusedVariables false
set_option linter.unusedSimpArgs false

theorem bez65 : Ev (fun k => ring_Bezout.f k 6 5) (3, 1, 1) := Ev.of (fun k => ring_Bezout.mono 6 5 k) (k := 60) (by decide +kernel)
theorem RingBezout : culletlaw01_RingBezout.Pure := by
  intro x y hx hy
  obtain ⟨a, rfl, ha⟩ := of_u32 hx
  obtain ⟨b, rfl, hb⟩ := of_u32 hy
  apply Ev.rounds
  unfold culletlaw01_RingBezout.f
  refine Ev.bind bez65 ?_
  simp only [if_true, bne_self_eq_false]
  refine Ev.step (fun k => culletlaw01_RingBezout.j0.eq_2 _ _ _ k) ?_
  simp only [Bool.false_eq_true, if_false]
  rw [u64_wrap_nat (show a < 2 ^ 64 by omega), u64_wrap_nat (show b < 2 ^ 64 by omega)]
  by_cases hb0 : b = 0
  · subst hb0
    have hB : Ev (fun k => ring_Bezout.f k a (0 : Nat)) ((a : Int), (if a = 0 then 0 else 1 : Int), (0 : Int)) := by
      unfold ring_Bezout.f
      simp only [if_pos (show ((0 : Nat) : Int) = 0 from rfl)]
      by_cases h : a = 0
      · subst h; exact Ev.now _
      · simp only [if_neg (show ¬ ((a : Nat) : Int) = 0 by omega), if_neg h]; exact Ev.now _
    refine Ev.bind hB ?_
    refine Ev.bind (gcd (show a < 2 ^ 64 by omega) (b := 0) (by decide)) ?_
    rw [pgcd_zero, u64_wrap_nat (show a < 2 ^ 64 by omega)]
    simp only [if_true]
    have e1 : (if a = 0 then 0 else 1 : Int) = ((if a = 0 then 0 else 1 : Nat) : Int) := by split <;> rfl
    rw [e1]
    have h1 : (if a = 0 then 0 else 1 : Nat) < 2 ^ 32 := by split <;> decide
    refine Ev.bind (Mul h1 ha) ?_
    have hM := Mul (a := 0) (b := 0) (by decide) (by decide)
    rw [cl_zero] at hM
    refine Ev.bind hM ?_
    have e2 : cl (if a = 0 then 0 else 1) a = a := by
      by_cases h : a = 0
      · subst h; exact cl_zero _
      · rw [if_neg h, one_cl]
    rw [e2, bits_xor64 (show a < 2 ^ 64 by omega) (b := 0) (by decide), Nat.xor_zero, bne_self_eq_false]
    refine Ev.step (fun k => culletlaw01_RingBezout.j1.eq_2 _ _ _ _ _ _ k) ?_
    simp only [Bool.false_eq_true, if_false, if_pos (show ((0 : Nat) : Int) = 0 from rfl), if_true]
    have e3 : ((((a : Nat) : Int) == 0) == (((if a = 0 then 0 else 1 : Nat) : Int) == 0)) = true := by
      by_cases h : a = 0
      · subst h; rfl
      · rw [if_neg h, beq_eq_false_iff_ne.2 (show ((a : Nat) : Int) ≠ 0 by omega)]; rfl
    rw [e3]
    exact Ev.now _
  · obtain ⟨g, u, v, ⟨h1, h2, h3, h4, h5, h6⟩, hE⟩ := Bezout ha hb0 hb
    refine Ev.bind hE ?_
    refine Ev.bind (gcd (show a < 2 ^ 64 by omega) (show b < 2 ^ 64 by omega)) ?_
    rw [u64_wrap_nat (show g < 2 ^ 64 by omega), ← h1]
    simp only [if_true]
    refine Ev.bind (Mul h3 ha) ?_
    refine Ev.bind (Mul h4 hb) ?_
    rw [bits_xor64 (cl_lt h3 ha) (cl_lt h4 hb), h2, bne_self_eq_false]
    refine Ev.step (fun k => culletlaw01_RingBezout.j1.eq_2 _ _ _ _ _ _ k) ?_
    simp only [Bool.false_eq_true, if_false, if_neg (show ¬ ((b : Nat) : Int) = 0 by omega)]
    rw [u64_wrap_nat (show u < 2 ^ 64 by omega), u64_wrap_nat (show b < 2 ^ 64 by omega), u64_wrap_nat (show g < 2 ^ 64 by omega)]
    refine Ev.bind (high (show u < 2 ^ 64 by omega)) ?_
    refine Ev.bind (high (show b < 2 ^ 64 by omega)) ?_
    refine Ev.bind (high (show g < 2 ^ 64 by omega)) ?_
    have hb2 := bl_le.2 hb
    have hg2 := bl_le.2 h5
    have hg0 : g ≠ 0 := by
      intro e; rw [e] at h1; exact hb0 (pgcd_eq_zero.1 h1.symm).2
    have hgp := bl_pos.2 hg0
    rw [wrap64_id (by omega) (by omega), decide_eq_true (show ((bl u : Int) - 1 < (bl b : Int) - 1 - ((bl g : Int) - 1)) by omega)]
    exact Ev.now _
end Go.Proofs.Ytilacemjflomfaa.Pure
