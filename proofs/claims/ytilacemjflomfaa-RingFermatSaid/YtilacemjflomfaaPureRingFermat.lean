/-
RingFermat: for every a and p: modulo an irreducible p of degree d (1 to 32) a to the 2^d is a, and a to the 2^d - 2 is what InvMod answers. No condition.
-/
import Derived.Test.YtilacemjflomfaaRingFns3
import Derived.Test.YtilacemjflomfaaQx12
namespace Go.Proofs.Ytilacemjflomfaa.Pure
open Go.RowKit Go.Proofs.Ytilacemjflomfaa.Q Go.Proofs.YtilacemjflomfaaW.PrintWords Go.Proofs.YtilacemjflomfaaW.PrintLast Go.Proofs.YtilacemjflomfaaW.PrintMore Go.Proofs.Ytilacemjflomfaa.R GP
set_option linter.unusedVariables false
set_option linter.unusedSimpArgs false

theorem fermat_irr7 : Ev (fun k => ring_Irreducible.f k 7) (true, 0) := Ev.of (fun k => ring_Irreducible.mono 7 k) (k := 60) (by decide +kernel)
theorem shl_one {d : Nat} (h : d ≤ 32) : shl .u64 1 (IntKind.u64.wrap (d : Int)) = ((2 ^ d : Nat) : Int) := by
  rw [u64_wrap_nat (show d < 2 ^ 64 by omega)]
  have h2 : 1 * 2 ^ d < 2 ^ 64 := by rw [Nat.one_mul]; exact Nat.pow_lt_pow_right (by decide) (by omega)
  have h3 := shl64 (a := 1) (s := d) (by omega) h2
  rw [show ((1 : Nat) : Int) = 1 from rfl, Nat.one_mul] at h3
  exact h3
theorem RingFermat : culletlaw01_RingFermat.Pure := by
  intro x y hx hy
  obtain ⟨a, rfl, ha⟩ := of_u64 hx
  obtain ⟨p, rfl, hp⟩ := of_u64 hy
  apply Ev.rounds
  unfold culletlaw01_RingFermat.f
  refine Ev.bind fermat_irr7 ?_
  simp only [if_true]
  refine Ev.step (fun k => culletlaw01_RingFermat.j0.eq_2 _ _ _ k) ?_
  simp only [bne_self_eq_false, Bool.false_eq_true, if_false]
  by_cases hm : 2 ≤ bl p ∧ bl p ≤ 33
  · obtain ⟨d, hd⟩ : ∃ d, bl p = d + 1 := ⟨bl p - 1, by omega⟩
    have hdd : (bl p : Int) - 1 = (d : Nat) := by omega
    have pow_lt : 2 ^ d < 2 ^ 64 := Nat.pow_lt_pow_right (by decide) (by omega)
    have pow_pos := Nat.two_pow_pos d
    by_cases hr : Rabin p
    · have hi := rabin_irr hm.1 hr
      have hp0 := hi.ne
      refine Ev.bind (Irreducible_true hm.1 hm.2 hr) ?_
      refine Ev.bind (high hp) ?_
      simp only [if_pos (show (bl p : Int) - 1 ≥ 1 by omega), decide_eq_true (show (bl p : Int) - 1 ≤ 32 by omega), beq_self_eq_true, bne_self_eq_false]
      refine Ev.step (fun k => culletlaw01_RingFermat.j1.eq_2 _ _ _ _ _ k) ?_
      simp only [Bool.false_eq_true, if_false, if_true]
      refine Ev.bind (DivMod hp0 ha hp) ?_
      rw [hdd]
      simp only [if_pos (show (0 : Int) ≤ IntKind.u64.wrap ((d : Nat) : Int) by rw [u64_wrap_nat (show d < 2 ^ 64 by omega)]; omega)]
      rw [shl_one (by omega)]
      refine Ev.bind (PowMod ha pow_lt hm.1 hm.2) ?_
      rw [fermat' hi hd a]
      simp only [if_true, bne_self_eq_false]
      refine Ev.step (fun k => culletlaw01_RingFermat.j2.eq_2 _ _ _ _ _ k) ?_
      simp only [Bool.false_eq_true, if_false]
      rcases InvMod ha hm.1 hm.2 with ⟨hg, q, hq1, hq2, hq3⟩ | ⟨hg, hq⟩
      · refine Ev.bind hq3 ?_
        have hnd : ¬ Dv p a := by
          intro k
          have := dv_pgcd k (Dv.refl p)
          rw [hg] at this
          have := this.bl_le (by decide)
          rw [bl_one] at this
          omega
        have hne : pmod a p ≠ 0 := fun e => hnd ((pmod_eq_zero hp0).1 e)
        simp only [if_neg (show ¬ ((pmod a p : Nat) : Int) = 0 by omega), if_pos (show (0 : Int) ≤ IntKind.u64.wrap ((d : Nat) : Int) by rw [u64_wrap_nat (show d < 2 ^ 64 by omega)]; omega)]
        rw [shl_one (by omega)]
        have h2d : 2 ≤ 2 ^ d := by
          have := Nat.pow_le_pow_right (n := 2) (by decide) (show 1 ≤ d by omega)
          omega
        rw [show ((2 ^ d : Nat) : Int) - 2 = ((2 ^ d - 2 : Nat) : Int) by omega, u64_wrap_nat (show 2 ^ d - 2 < 2 ^ 64 by omega)]
        refine Ev.bind (PowMod ha (show 2 ^ d - 2 < 2 ^ 64 by omega) hm.1 hm.2) ?_
        simp only [if_true]
        have e : pmod q p = pmod (pp a (2 ^ d - 2)) p := by
          apply hi.cancel hnd
          rw [hq2, ← pp_succ, show 2 ^ d - 2 + 1 = 2 ^ d - 1 by omega, fermat hi hd hnd]
        rw [pmod_small hq1] at e
        rw [← e]
        simp only [beq_self_eq_true]
        exact Ev.now _
      · refine Ev.bind hq ?_
        have hz : pmod a p = 0 := by
          rcases hi.gcd a with k | k
          · exact (pmod_eq_zero hp0).2 k
          · exact absurd k hg
        simp only [if_pos (show ((pmod a p : Nat) : Int) = 0 by omega), beq_self_eq_true]
        exact Ev.now _
    · refine Ev.bind (Irreducible_false hm.1 hm.2 hr) ?_
      refine Ev.bind (high hp) ?_
      simp only [if_pos (show (bl p : Int) - 1 ≥ 1 by omega), decide_eq_true (show (bl p : Int) - 1 ≤ 32 by omega), beq_self_eq_true, bne_self_eq_false]
      refine Ev.step (fun k => culletlaw01_RingFermat.j1.eq_2 _ _ _ _ _ k) ?_
      simp only [Bool.false_eq_true, if_false]
      exact Ev.now _
  · refine Ev.bind (Irreducible_none hp hm) ?_
    refine Ev.bind (high hp) ?_
    have j1 : ∀ v : Int, Ev (fun k => culletlaw01_RingFermat.j1 k a p false v false) true := by
      intro v
      refine Ev.step (fun k => culletlaw01_RingFermat.j1.eq_2 _ _ _ _ _ k) ?_
      simp only [Bool.false_eq_true, if_false]
      exact Ev.now _
    by_cases h2 : 2 ≤ bl p
    · simp only [if_pos (show (bl p : Int) - 1 ≥ 1 by omega), decide_eq_false (show ¬ (bl p : Int) - 1 ≤ 32 by omega)]
      exact j1 _
    · simp only [if_neg (show ¬ (bl p : Int) - 1 ≥ 1 by omega)]
      exact j1 _
end Go.Proofs.Ytilacemjflomfaa.Pure
