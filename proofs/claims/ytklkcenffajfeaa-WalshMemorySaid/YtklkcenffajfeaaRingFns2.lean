/- What the printed functions of the ring compute, second part: residues, inverses, Rabin's test, orders. -/
import Derived.Test.YtklkcenffajfeaaRingFns
namespace Go.Proofs.Ytklkcenffajfeaa.R
open Go.RowKit Go.Proofs.YtklkcenffajfeaaW.PrintWords Go.Proofs.YtklkcenffajfeaaW.PrintLast Go.Proofs.YtklkcenffajfeaaW.PrintMore Go.Proofs.Ytklkcenffajfeaa.A GP
set_option linter.unusedVariables false
set_option linter.unusedSimpArgs false

theorem isMod {a : Nat} (ha : a < 2 ^ 64) (m : Nat) : ring_isModulus.f a m = some (decide (2 ≤ bl a ∧ bl a ≤ m + 1)) := by
  unfold ring_isModulus.f
  rw [deg ha, Option.bind_some]
  by_cases h : 2 ≤ bl a
  · rw [if_pos (by omega)]
    by_cases h2 : bl a ≤ m + 1
    · rw [decide_eq_true (show (bl a : Int) - 1 ≤ m by omega), decide_eq_true ⟨h, h2⟩]
    · rw [decide_eq_false (show ¬ (bl a : Int) - 1 ≤ m by omega), decide_eq_false (fun k => h2 k.2)]
  · rw [if_neg (by omega), decide_eq_false (fun k => h k.1)]

theorem double_mod {p r d : Nat} (hp : bl p = d + 1) (hr : bl r ≤ d) : pmod (2 * r) p = if (2 * r).testBit d then 2 * r ^^^ p else 2 * r := by
  have hp0 : p ≠ 0 := bl_pos.1 (by omega)
  have h2 : bl (2 * r) ≤ d + 1 := by
    by_cases h0 : r = 0
    · subst h0; rw [Nat.mul_zero, bl_zero]; omega
    · rw [bl_double h0]; omega
  by_cases hb : (2 * r).testBit d = true
  · rw [if_pos hb]
    have h3 := bl_of_bit hb
    have h4 : bl (2 * r) = bl p := by omega
    have h5 : 2 * r ≠ 0 := bl_pos.1 (by omega)
    have h6 := bl_xor_lt h4 h5
    exact ((div_unique hp0 (a := 2 * r) (q := 1) (r := 2 * r ^^^ p) (by rw [one_cl, Nat.xor_comm (2 * r), xor_cancel_left]) (by omega)).2).symm
  · rw [if_neg hb]
    apply pmod_small
    by_cases h3 : bl (2 * r) = d + 1
    · exact absurd (top_bit h3) hb
    · omega
theorem cl_half (a b j : Nat) : cl a (b / 2 ^ j) = (if b.testBit j then a else 0) ^^^ (2 * cl a (b / 2 ^ (j + 1))) := by
  rw [cl_step, Nat.div_div_eq_div_mul, ← Nat.pow_succ, Nat.testBit_eq_decide_div_mod_eq]
  rcases Nat.mod_two_eq_zero_or_one (b / 2 ^ j) with e | e <;> rw [e] <;> simp
theorem mulMod_l0 {a b p d : Nat} (hp : bl p = d + 1) (hd : 1 ≤ d) (hd2 : d ≤ 32) (ha : bl a ≤ d) (hb : b < 2 ^ 64) : ∀ j : Nat, j ≤ d →
    Ev (fun k => ring_mulMod.l0 k a b p ((bl p : Int) - 1) (pmod (cl a (b / 2 ^ j)) p : Nat) ((j : Int) - 1)) (pmod (cl a b) p : Nat) := by
  have hp0 : p ≠ 0 := bl_pos.1 (by omega)
  have hp64 : p < 2 ^ 64 := bl_le.1 (by omega)
  have ha64 : a < 2 ^ 64 := bl_le.1 (by omega)
  have edp : (bl p : Int) - 1 = (d : Nat) := by omega
  rw [edp]
  intro j
  induction j with
  | zero =>
    intro _
    refine Ev.step (fun k => ring_mulMod.l0.eq_2 _ _ _ _ _ _ k) ?_
    simp only [if_neg (show ¬ (((0 : Nat) : Int) - 1) ≥ 0 by omega)]
    rw [Nat.pow_zero, Nat.div_one]
    exact Ev.now _
  | succ j ih =>
    intro hj
    refine Ev.step (fun k => ring_mulMod.l0.eq_2 _ _ _ _ _ _ k) ?_
    have ej : (((j + 1 : Nat) : Int) - 1) = (j : Nat) := by omega
    have hr := pmod_lt hp0 (cl a (b / 2 ^ (j + 1)))
    generalize hrr : pmod (cl a (b / 2 ^ (j + 1))) p = r at hr ⊢
    have hr2 : r < 2 ^ 32 := bl_le.1 (by omega)
    have hr3 : 2 * r < 2 ^ 64 := by omega
    rw [ej, show ((r : Int) * 2) = ((2 * r : Nat) : Int) by omega, u64_wrap_nat hr3, bit64 hr3 (by omega), bit64 hb (by omega), wrap64_id (by omega) (by omega)]
    simp only [if_pos (show ((j : Nat) : Int) ≥ 0 by omega), if_pos (show (0 : Int) ≤ ((d : Nat) : Int) by omega), if_pos (show (0 : Int) ≤ ((j : Nat) : Int) by omega)]
    have ihj := ih (by omega)
    have hdm := double_mod hp (r := r) (by omega)
    have hmain : pmod (cl a (b / 2 ^ j)) p = (if b.testBit j then a else 0) ^^^ pmod (2 * r) p := by
      have e2 : pmod (2 * cl a (b / 2 ^ (j + 1))) p = pmod (2 * r) p := by
        have := pmod_cl_right hp0 2 (cl a (b / 2 ^ (j + 1)))
        rw [hrr, cl_comm 2 r, cl_comm 2] at this
        have t1 : ∀ x, cl x 2 = 2 * x := by intro x; have := cl_pow x 1; rw [Nat.pow_one] at this; omega
        rw [t1, t1] at this
        exact this.symm
      rw [cl_half, pmod_xor hp0, e2]
      congr 1
      by_cases hbit : b.testBit j = true
      · rw [if_pos hbit]; exact pmod_small (by omega)
      · rw [if_neg hbit]; exact pmod_small (by rw [bl_zero]; omega)
    rw [hmain, hdm] at ihj
    by_cases h1 : (2 * r).testBit d = true
    · by_cases h2 : b.testBit j = true
      · simp only [h1, h2, if_true]
        rw [if_pos h1, if_pos h2] at ihj
        rw [bits_xor64 hr3 hp64, bits_xor64 (Nat.xor_lt_two_pow hr3 hp64) ha64, Nat.xor_comm _ a]
        exact ihj
      · simp only [h1, h2, if_true, if_false, Bool.false_eq_true, show ¬ ((0 : Int) = 1) by decide]
        rw [if_pos h1, if_neg h2, Nat.zero_xor] at ihj
        rw [bits_xor64 hr3 hp64]
        exact ihj
    · by_cases h2 : b.testBit j = true
      · simp only [h1, h2, if_true, if_false, Bool.false_eq_true, show ¬ ((0 : Int) = 1) by decide]
        rw [if_neg h1, if_pos h2] at ihj
        rw [bits_xor64 hr3 ha64, Nat.xor_comm _ a]
        exact ihj
      · simp only [h1, h2, if_true, if_false, Bool.false_eq_true, show ¬ ((0 : Int) = 1) by decide]
        rw [if_neg h1, if_neg h2, Nat.zero_xor] at ihj
        exact ihj
theorem mulMod {a b p : Nat} (ha : a < 2 ^ 64) (hb : b < 2 ^ 64) (hp : 2 ≤ bl p) (hp2 : bl p ≤ 33) : Ev (fun k => ring_mulMod.f k a b p) (pmod (cl a b) p : Nat) := by
  have hp0 : p ≠ 0 := bl_pos.1 (by omega)
  have hp64 : p < 2 ^ 64 := bl_le.1 (by omega)
  obtain ⟨d, hd⟩ : ∃ d, bl p = d + 1 := ⟨bl p - 1, by omega⟩
  unfold ring_mulMod.f
  refine Ev.bind (divMod hp0 ha hp64) ?_
  refine Ev.bind (divMod hp0 hb hp64) ?_
  simp only [deg hp64, Option.bind_some]
  have h1 := pmod_lt hp0 a
  have h2 := pmod_lt hp0 b
  have := mulMod_l0 hd (by omega) (by omega) (a := pmod a p) (b := pmod b p) (by omega) (pmod_lt64 hp0 hp64) d (Nat.le_refl _)
  rw [Nat.div_eq_of_lt (bl_le.1 (show bl (pmod b p) ≤ d by omega)), cl_zero, pmod_cl_left hp0, pmod_cl_right hp0] at this
  have e0 : pmod 0 p = 0 := pmod_small (by rw [bl_zero]; omega)
  rw [e0] at this
  have e1 : (d : Int) - 1 = wrap64 ((bl p : Int) - 1 - 1) := by rw [wrap64_id (by omega) (by omega)]; omega
  rw [e1] at this
  exact this
theorem MulMod {a b p : Nat} (ha : a < 2 ^ 64) (hb : b < 2 ^ 64) (hp : 2 ≤ bl p) (hp2 : bl p ≤ 33) : Ev (fun k => ring_MulMod.f k a b p) ((pmod (cl a b) p : Nat), (0 : Int)) := by
  have hp64 : p < 2 ^ 64 := bl_le.1 (by omega)
  unfold ring_MulMod.f
  have := isMod hp64 32
  rw [decide_eq_true ⟨hp, by omega⟩] at this
  simp only [show ((32 : Nat) : Int) = 32 from rfl] at this
  simp only [this, Option.bind_some, if_true]
  exact Ev.bind (mulMod ha hb hp hp2) (Ev.now _)
theorem pp_double (a m : Nat) : pp a (2 * m) = pp (cl a a) m := by rw [pp_mul, pp_two]
theorem not_mod {p : Nat} (hp64 : p < 2 ^ 64) {m : Nat} (h : ¬ (2 ≤ bl p ∧ bl p ≤ m + 1)) : ring_isModulus.f p m = some false := by
  rw [isMod hp64, decide_eq_false h]
theorem is_mod {p : Nat} (hp64 : p < 2 ^ 64) {m : Nat} (h : 2 ≤ bl p ∧ bl p ≤ m + 1) : ring_isModulus.f p m = some true := by
  rw [isMod hp64, decide_eq_true h]

end Go.Proofs.Ytklkcenffajfeaa.R
