/-
RingPrime: for every a, b and p a product of two polynomials of a degree from 1 on isn't irreducible; an irreducible p that divides a * b divides a or b. No condition.
-/
import Derived.Test.YtilacemjflomfaaRingFns3
import Derived.Test.YtilacemjflomfaaQx8
namespace Go.Proofs.Ytilacemjflomfaa.Pure
open Go.RowKit Go.Proofs.Ytilacemjflomfaa.Q Go.Proofs.YtilacemjflomfaaW.PrintWords Go.Proofs.YtilacemjflomfaaW.PrintLast Go.Proofs.YtilacemjflomfaaW.PrintMore Go.Proofs.Ytilacemjflomfaa.R GP
set_option linter.unusedVariables false
set_option linter.unusedSimpArgs false

theorem irr7 : Ev (fun k => ring_Irreducible.f k 7) (true, 0) := Ev.of (fun k => ring_Irreducible.mono 7 k) (k := 60) (by decide +kernel)
theorem RingPrime : culletlaw01_RingPrime.Pure := by
  intro x y z hx hy hz
  obtain ⟨a, rfl, ha⟩ := of_u32 hx
  obtain ⟨b, rfl, hb⟩ := of_u32 hy
  obtain ⟨p, rfl, hp⟩ := of_u64 hz
  apply Ev.rounds
  unfold culletlaw01_RingPrime.f
  refine Ev.bind irr7 ?_
  simp only [if_true]
  refine Ev.step (fun k => culletlaw01_RingPrime.j0.eq_2 _ _ _ _ k) ?_
  simp only [bne_self_eq_false, Bool.false_eq_true, if_false]
  have hx64 : cl a b < 2 ^ 64 := cl_lt ha hb
  refine Ev.bind (Mul ha hb) ?_
  -- the last part: Euclid
  have j2 : Ev (fun k => culletlaw01_RingPrime.j2 k a b p (cl a b : Nat)) true := by
    refine Ev.step (fun k => culletlaw01_RingPrime.j2.eq_2 _ _ _ _ k) ?_
    by_cases hm : 2 ≤ bl p ∧ bl p ≤ 33
    · by_cases hr : Rabin p
      · refine Ev.bind (Irreducible_true hm.1 hm.2 hr) ?_
        simp only [if_true]
        have hi := rabin_irr hm.1 hr
        have hp0 := hi.ne
        rw [u64_wrap_nat (show a < 2 ^ 64 by omega), u64_wrap_nat (show b < 2 ^ 64 by omega)]
        refine Ev.bind (DivMod hp0 hx64 hp) ?_
        refine Ev.bind (DivMod hp0 (show a < 2 ^ 64 by omega) hp) ?_
        refine Ev.bind (DivMod hp0 (show b < 2 ^ 64 by omega) hp) ?_
        simp only [if_true]
        by_cases h1 : pmod a p = 0
        · simp only [if_pos (show ((pmod a p : Nat) : Int) = 0 by omega)]
          rw [(pmod_eq_zero hp0).2 (((pmod_eq_zero hp0).1 h1).mul_right b)]
          exact Ev.now _
        · simp only [if_neg (show ¬ ((pmod a p : Nat) : Int) = 0 by omega)]
          have : (((pmod (cl a b) p : Nat) : Int) == 0) = (((pmod b p : Nat) : Int) == 0) := by
            rw [Bool.eq_iff_iff, beq_iff_eq, beq_iff_eq]
            have e1 := pmod_eq_zero hp0 (a := cl a b)
            have e2 := pmod_eq_zero hp0 (a := b)
            have e3 := pmod_eq_zero hp0 (a := a)
            constructor
            · intro k
              rcases hi.prime (e1.1 (by omega)) with d | d
              · exact absurd (e3.2 d) h1
              · have := e2.2 d; omega
            · intro k
              have := e1.2 ((e2.1 (by omega)).mul_left a)
              omega
          rw [this]
          simp only [beq_self_eq_true]
          exact Ev.now _
      · refine Ev.bind (Irreducible_false hm.1 hm.2 hr) ?_
        simp only [Bool.false_eq_true, if_false]
        exact Ev.now _
    · refine Ev.bind (Irreducible_none hp hm) ?_
      simp only [Bool.false_eq_true, if_false]
      exact Ev.now _
  rw [u64_wrap_nat (show a < 2 ^ 64 by omega), u64_wrap_nat (show b < 2 ^ 64 by omega)]
  have j1 : ∀ t : Bool, (t = true → 2 ≤ bl a ∧ 2 ≤ bl b ∧ bl (cl a b) ≤ 33) → Ev (fun k => culletlaw01_RingPrime.j1 k a b p (cl a b : Nat) t) true := by
    intro t ht
    refine Ev.step (fun k => culletlaw01_RingPrime.j1.eq_2 _ _ _ _ _ k) ?_
    cases t with
    | false => simp only [Bool.false_eq_true, if_false]; exact j2
    | true =>
      simp only [if_true]
      obtain ⟨h1, h2, h3⟩ := ht rfl
      have ha0 : a ≠ 0 := bl_pos.1 (by omega)
      have hb0 : b ≠ 0 := bl_pos.1 (by omega)
      have e := bl_cl ha0 hb0
      have hnr : ¬ Rabin (cl a b) := by
        intro hr
        have hi := rabin_irr (by omega) hr
        rcases hi.2 a b rfl with k | k
        · rw [k, bl_one] at h1; omega
        · rw [k, bl_one] at h2; omega
      refine Ev.bind (Irreducible_false (by omega) h3 hnr) ?_
      simp only [Bool.false_eq_true, if_false, if_true]
      exact j2
  refine Ev.bind (high (show a < 2 ^ 64 by omega)) ?_
  by_cases h1 : 2 ≤ bl a
  · simp only [if_pos (show (bl a : Int) - 1 ≥ 1 by omega)]
    refine Ev.bind (high (show b < 2 ^ 64 by omega)) ?_
    by_cases h2 : 2 ≤ bl b
    · simp only [if_pos (show (bl b : Int) - 1 ≥ 1 by omega)]
      refine Ev.bind (high hx64) ?_
      refine j1 _ ?_
      intro ht
      have := of_decide_eq_true ht
      exact ⟨h1, h2, by omega⟩
    · simp only [if_neg (show ¬ (bl b : Int) - 1 ≥ 1 by omega)]
      exact j1 _ (fun h => by cases h)
  · simp only [if_neg (show ¬ (bl a : Int) - 1 ≥ 1 by omega)]
    exact j1 _ (fun h => by cases h)

end Go.Proofs.Ytilacemjflomfaa.Pure
