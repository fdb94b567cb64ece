/-
Gf16Field: for every a, b and c of the field of 65536: the laws of a field, no zero divisors, Inv and Div undo Mul; ErrZero at 0. No condition.
-/
import Derived.Test.YtedaifgbnojojaaGf16Fns
import Derived.Test.YtedaifgbnojojaaQx4
namespace Go.Proofs.Ytedaifgbnojojaa.Pure
open Go.RowKit Go.Proofs.Ytedaifgbnojojaa.Q Go.Proofs.YtedaifgbnojojaaW.PrintWords Go.Proofs.YtedaifgbnojojaaW.PrintLast Go.Proofs.YtedaifgbnojojaaW.PrintMore Go.Proofs.Ytedaifgbnojojaa.R GP
set_option linter.unusedVariables false
set_option linter.unusedSimpArgs false

theorem Gf16Field : culletlaw03_Gf16Field.Pure := by
  intro x y z hx hy hz
  obtain ⟨a, rfl, ha⟩ := of_u16 hx
  obtain ⟨b, rfl, hb⟩ := of_u16 hy
  obtain ⟨c, rfl, hc⟩ := of_u16 hz
  apply Ev.rounds
  unfold culletlaw03_Gf16Field.f
  refine Ev.bind fixed ?_
  simp only [if_true]
  have hab := m16_lt a b
  refine Ev.bind (Mul16 ha hb) ?_
  refine Ev.bind (Mul16 hb ha) ?_
  rw [m16_comm b a]
  simp only [if_true]
  refine Ev.bind (Mul16 hab hc) ?_
  refine Ev.bind (Mul16 hb hc) ?_
  refine Ev.bind (Mul16 ha (m16_lt b c)) ?_
  rw [m16_assoc, bne_self_eq_false]
  refine Ev.step (fun k => culletlaw03_Gf16Field.j0.eq_2 _ _ _ _ _ k) ?_
  simp only [Bool.false_eq_true, if_false]
  rw [bits_xor16 hb hc]
  refine Ev.bind (Mul16 ha (xor16 hb hc)) ?_
  refine Ev.bind (Mul16 ha hc) ?_
  rw [bits_xor16 hab (m16_lt a c), m16_xor]
  simp only [if_true]
  have h1 := Mul16 ha (b := 1) (by decide)
  rw [m16_one ha] at h1
  refine Ev.bind h1 ?_
  simp only [if_true]
  have h0 := Mul16 ha (b := 0) (by decide)
  rw [m16_zero] at h0
  refine Ev.bind h0 ?_
  rw [show (((0 : Nat) : Int) != 0) = false from rfl]
  refine Ev.step (fun k => culletlaw03_Gf16Field.j1.eq_2 _ _ _ _ k) ?_
  simp only [Bool.false_eq_true, if_false]
  have hz := m16_eq_zero ha hb
  have j2 : Ev (fun k => culletlaw03_Gf16Field.j2 k a b false) true := by
    refine Ev.step (fun k => culletlaw03_Gf16Field.j2.eq_2 _ _ _ k) ?_
    simp only [Bool.false_eq_true, if_false]
    by_cases hb0 : b = 0
    · subst hb0
      simp only [show ((0 : Nat) : Int) = 0 from rfl, Inv16_zero, Div16_zero, Option.bind_some, if_true, beq_self_eq_true]
      exact Ev.now _
    · refine Ev.bind (Inv16 hb hb0) ?_
      refine Ev.bind (Div16 ha hb hb0) ?_
      simp only [if_neg (show ¬ ((b : Nat) : Int) = 0 by omega), if_true]
      refine Ev.bind (Mul16 hb (i16_lt b)) ?_
      rw [m16_comm b, m16_inv hb hb0]
      simp only [if_pos (show ((1 : Nat) : Int) = 1 from rfl)]
      refine Ev.bind (Mul16 (m16_lt a (i16 b)) hb) ?_
      rw [m16_assoc, m16_inv hb hb0, m16_one ha]
      simp only [if_true]
      refine Ev.bind (Mul16 ha (i16_lt b)) ?_
      rw [beq_self_eq_true]
      exact Ev.now _
  by_cases ha0 : a = 0
  · simp only [if_pos (show ((a : Nat) : Int) = 0 by omega)]
    have e : ((((m16 a b : Nat) : Int) == 0) != true) = false := by
      rw [beq_iff_eq.2 (show ((m16 a b : Nat) : Int) = 0 by have := hz.2 (.inl ha0); omega)]; rfl
    rw [e]
    exact j2
  · simp only [if_neg (show ¬ ((a : Nat) : Int) = 0 by omega)]
    have e : ((((m16 a b : Nat) : Int) == 0) != (((b : Nat) : Int) == 0)) = false := by
      have : (((m16 a b : Nat) : Int) == 0) = (((b : Nat) : Int) == 0) := by
        rw [Bool.eq_iff_iff, beq_iff_eq, beq_iff_eq]
        constructor
        · intro k
          rcases hz.1 (by omega) with q | q
          · exact absurd q ha0
          · omega
        · intro k
          have := hz.2 (.inr (by omega))
          omega
      rw [this, bne_self_eq_false]
    rw [e]
    exact j2
end Go.Proofs.Ytedaifgbnojojaa.Pure
