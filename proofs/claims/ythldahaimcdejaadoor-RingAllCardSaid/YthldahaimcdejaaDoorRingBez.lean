/- What the printed Bezout computes. -/
import Derived.Test.YthldahaimcdejaaDoorRingFns3
import Derived.Test.YthldahaimcdejaaDoorZ2

namespace Go.Proofs.YthldahaimcdejaaDoor.R
open Go.RowKit Go.Proofs.YthldahaimcdejaaDoorW.PrintWords Go.Proofs.YthldahaimcdejaaDoorW.PrintLast Go.Proofs.YthldahaimcdejaaDoorW.PrintMore Go.Proofs.YthldahaimcdejaaDoor.A GP
set_option linter.unusedVariables false
set_option linter.unusedSimpArgs false

theorem mod32 {a : Nat} (h : a < 2 ^ 32) : ((a : Int)) % 4294967296 = a := by omega
/-- What Bezout tells. -/
def BezR (a b g u v : Nat) : Prop := g = pgcd a b ∧ cl u a ^^^ cl v b = g ∧ u < 2 ^ 32 ∧ v < 2 ^ 32 ∧ g < 2 ^ 32 ∧ bl u + bl g ≤ bl b
theorem Bezout_l0 {a b : Nat} (ha : a < 2 ^ 32) (hb0 : b ≠ 0) (hb : b < 2 ^ 32) : ∀ (n x y s t : Nat), bl y ≤ n → x ≠ 0 → x < 2 ^ 32 → bl y < bl x → bl s < bl t →
    Dv b (x ^^^ cl s a) → Dv b (y ^^^ cl t a) → cl s y ^^^ cl t x = b → pgcd x y = pgcd a b →
    ∃ g u v : Nat, BezR a b g u v ∧ Ev (fun k => ring_Bezout.l0 k a b x y s t) ((g : Int), (u : Int), (v : Int)) := by
  have hb2 := bl_le.2 hb
  have fin : ∀ (x s t : Nat), x ≠ 0 → x < 2 ^ 32 → bl s < bl t → Dv b (x ^^^ cl s a) → cl t x = b → pgcd x 0 = pgcd a b →
      ∃ g u v : Nat, BezR a b g u v ∧ Ev (fun k => ring_Bezout.l0 k a b x (0 : Nat) s t) ((g : Int), (u : Int), (v : Int)) := by
    intro x s t hx0 hx hst hxs htx hg
    rw [pgcd_zero] at hg
    have ht0 : t ≠ 0 := bl_pos.1 (by omega)
    have hx2 := bl_le.2 hx
    have hxp := bl_pos.2 hx0
    have ebl := bl_cl ht0 hx0
    rw [htx] at ebl
    have hs32 : s < 2 ^ 32 := bl_le.1 (by omega)
    have ht32 : t < 2 ^ 32 := bl_le.1 (by omega)
    have hq : pquo b x = t := ((div_unique hx0 (a := b) (q := t) (r := 0) (by rw [Nat.xor_zero]; exact htx.symm) (by rw [bl_zero]; exact hxp)).1).symm
    have hsm : pmod s t = s := pmod_small hst
    obtain ⟨w, hw⟩ := hxs
    have hsa : cl s a < 2 ^ 64 := cl_lt hs32 ha
    have hw1 : cl s a ^^^ x = cl w b := by rw [Nat.xor_comm]; exact hw
    have hwq : pquo (cl s a ^^^ x) b = w := ((div_unique hb0 (a := cl s a ^^^ x) (q := w) (r := 0) (by rw [Nat.xor_zero]; exact hw1) (by rw [bl_zero]; exact bl_pos.2 hb0)).1).symm
    have hw32 : w < 2 ^ 32 := by
      by_cases hw0 : w = 0
      · rw [hw0]; exact Nat.two_pow_pos _
      · have e2 := bl_cl hw0 hb0
        have hwp := bl_pos.2 hw0
        rw [← hw1] at e2
        have hsl : bl (cl s a) + bl x ≤ bl b + 32 := by
          by_cases hs0 : s = 0
          · subst hs0; rw [zero_cl, bl_zero]; omega
          · by_cases ha0 : a = 0
            · subst ha0; rw [cl_zero, bl_zero]; omega
            · have e3 := bl_cl hs0 ha0
              have ha2 := bl_le.2 ha
              omega
        have h4 := bl_xor_le (x := cl s a) (y := x) (n := bl b + 32 - 1) (by omega) (by have := bl_pos.2 hb0; omega)
        exact bl_le.1 (by omega)
    refine ⟨x, s, w, ⟨hg, ?_, hs32, hw32, hx, by omega⟩, ?_⟩
    · rw [← hw1, xor_cancel_left]
    · refine Ev.step (fun k => ring_Bezout.l0.eq_2 _ _ _ _ _ _ k) ?_
      simp only [if_pos (show ((0 : Nat) : Int) = 0 from rfl)]
      rw [u64_wrap_nat (show b < 2 ^ 64 by omega)]
      refine Ev.bind (divMod hx0 (show b < 2 ^ 64 by omega) (show x < 2 ^ 64 by omega)) ?_
      rw [hq]
      refine Ev.bind (divMod ht0 (show s < 2 ^ 64 by omega) (show t < 2 ^ 64 by omega)) ?_
      rw [hsm, mod32 hs32]
      refine Ev.bind (Mul hs32 ha) ?_
      rw [bits_xor64 hsa (show x < 2 ^ 64 by omega)]
      refine Ev.bind (divMod hb0 (Nat.xor_lt_two_pow hsa (show x < 2 ^ 64 by omega)) (show b < 2 ^ 64 by omega)) ?_
      rw [hwq, mod32 hx, mod32 hw32]
      exact Ev.now _
  intro n
  induction n with
  | zero =>
    intro x y s t h hx0 hx hyx hst hxs hyt hdet hg
    have : y = 0 := bl_eq_zero.1 (by omega)
    subst this
    rw [cl_zero, Nat.zero_xor] at hdet
    exact fin x s t hx0 hx hst hxs hdet hg
  | succ n ih =>
    intro x y s t h hx0 hx hyx hst hxs hyt hdet hg
    by_cases h0 : y = 0
    · subst h0
      rw [cl_zero, Nat.zero_xor] at hdet
      exact fin x s t hx0 hx hst hxs hdet hg
    · have ht0 : t ≠ 0 := bl_pos.1 (by omega)
      have hx2 := bl_le.2 hx
      have hyp := bl_pos.2 h0
      have htp := bl_pos.2 ht0
      have etx := bl_cl ht0 hx0
      have hsy : bl (cl s y) < bl (cl t x) := by
        by_cases hs0 : s = 0
        · subst hs0; rw [zero_cl, bl_zero]; omega
        · have := bl_cl hs0 h0; omega
      have ebl : bl (cl t x) = bl b := by rw [← hdet, Nat.xor_comm, bl_xor_of_lt hsy]
      -- the quotient
      have e := div_eq h0 x
      have l := pmod_lt h0 x
      have hq0 : pquo x y ≠ 0 := by
        intro hq; rw [hq, zero_cl, Nat.zero_xor] at e; rw [← e] at l; omega
      have hqp := bl_pos.2 hq0
      have eq1 := bl_cl hq0 h0
      have eq2 : bl (cl (pquo x y) y) = bl x := by
        have := bl_xor_of_lt (x := cl (pquo x y) y) (y := pmod x y) (by omega)
        rw [← e] at this; exact this.symm
      have eqt := bl_cl hq0 ht0
      have htn : bl (s ^^^ cl (pquo x y) t) = bl (cl (pquo x y) t) := by
        rw [Nat.xor_comm]; exact bl_xor_of_lt (by omega)
      have hq32 : pquo x y < 2 ^ 32 := bl_le.1 (by omega)
      have ht32 : t < 2 ^ 32 := bl_le.1 (by omega)
      have hs64 : s < 2 ^ 64 := bl_le.1 (by omega)
      have hy32 : y < 2 ^ 32 := bl_le.1 (by omega)
      have er : pmod x y = x ^^^ cl (pquo x y) y := by
        rw [Nat.xor_comm] at e
        exact xor_eq_iff.1 e.symm
      have key : Dv b (pmod x y ^^^ cl (s ^^^ cl (pquo x y) t) a) := by
        have e4 := hxs.xor (hyt.mul_left (pquo x y))
        have e5 : (x ^^^ cl s a) ^^^ cl (pquo x y) (y ^^^ cl t a) = (x ^^^ cl (pquo x y) y) ^^^ cl (s ^^^ cl (pquo x y) t) a := by
          rw [cl_xor_left, cl_xor_right, cl_assoc]; ac_rfl
        rw [e5] at e4
        rw [er]; exact e4
      have det : cl t (pmod x y) ^^^ cl (s ^^^ cl (pquo x y) t) y = b := by
        rw [er, cl_xor_right, cl_xor_left, ← hdet]
        have : cl t (cl (pquo x y) y) = cl (cl (pquo x y) t) y := by ac_rfl
        rw [this]
        generalize cl (cl (pquo x y) t) y = z
        calc (cl t x ^^^ z) ^^^ (cl s y ^^^ z) = (cl s y ^^^ cl t x) ^^^ (z ^^^ z) := by ac_rfl
          _ = _ := by rw [Nat.xor_self, Nat.xor_zero]
      obtain ⟨g, u, v, hB, hE⟩ := ih y (pmod x y) t (s ^^^ cl (pquo x y) t) (by omega) h0 hy32 l (by omega) hyt key det (by rw [← pgcd_step h0]; exact hg)
      refine ⟨g, u, v, hB, ?_⟩
      refine Ev.step (fun k => ring_Bezout.l0.eq_2 _ _ _ _ _ _ k) ?_
      simp only [if_neg (show ¬ ((y : Nat) : Int) = 0 by omega)]
      refine Ev.bind (divMod h0 (show x < 2 ^ 64 by omega) (show y < 2 ^ 64 by omega)) ?_
      rw [mod32 hq32, mod32 ht32]
      refine Ev.bind (Mul hq32 ht32) ?_
      rw [bits_xor64 hs64 (cl_lt hq32 ht32)]
      exact hE
theorem Bezout {a b : Nat} (ha : a < 2 ^ 32) (hb0 : b ≠ 0) (hb : b < 2 ^ 32) : ∃ g u v : Nat, BezR a b g u v ∧ Ev (fun k => ring_Bezout.f k a b) ((g : Int), (u : Int), (v : Int)) := by
  have l := pmod_lt hb0 a
  obtain ⟨g, u, v, hB, hE⟩ := Bezout_l0 ha hb0 hb _ b (pmod a b) 0 1 (Nat.le_refl _) hb0 hb l (by rw [bl_zero, bl_one]; decide)
    (by rw [zero_cl, Nat.xor_zero]; exact Dv.refl b) (by rw [one_cl, Nat.xor_comm]; exact dv_xor_pmod hb0 a) (by rw [zero_cl, one_cl, Nat.zero_xor]) (pgcd_step hb0).symm
  refine ⟨g, u, v, hB, ?_⟩
  unfold ring_Bezout.f
  simp only [if_neg (show ¬ ((b : Nat) : Int) = 0 by omega)]
  rw [u64_wrap_nat (show a < 2 ^ 64 by omega), u64_wrap_nat (show b < 2 ^ 64 by omega)]
  refine Ev.step (fun k => ring_Bezout.l0.eq_2 _ _ _ _ _ _ k) ?_
  simp only [if_neg (show ¬ ((b : Nat) : Int) = 0 by omega)]
  refine Ev.bind (divMod hb0 (show a < 2 ^ 64 by omega) (show b < 2 ^ 64 by omega)) ?_
  have hq32 : pquo a b < 2 ^ 32 := by
    by_cases hq : pquo a b = 0
    · rw [hq]; exact Nat.two_pow_pos _
    · have e := div_eq hb0 a
      have e2 := bl_cl hq hb0
      have ha2 := bl_le.2 ha
      have hq1 := bl_pos.2 hq
      have hb1 := bl_pos.2 hb0
      rw [e, bl_xor_of_lt (by omega)] at ha2
      exact bl_le.1 (by omega)
  rw [mod32 hq32]
  have hM := Mul hq32 (b := 0) (by decide)
  rw [cl_zero] at hM
  refine Ev.bind hM ?_
  have hx := bits_xor64 (a := 1) (b := 0) (by decide) (by decide)
  rw [show ((1 : Nat) : Int) = 1 from rfl, Nat.xor_zero] at hx
  rw [hx]
  exact hE
end Go.Proofs.YthldahaimcdejaaDoor.R
