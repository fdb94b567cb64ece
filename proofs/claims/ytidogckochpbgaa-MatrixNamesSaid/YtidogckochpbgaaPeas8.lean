/- The peasant's way of multiplying, and what the printed functions of layer 2 and of the theorems' own products compute. -/
import Derived.Test.YtidogckochpbgaaQx0
import Derived.Test.YtidogckochpbgaaRingFns
import Derived.Test.YtidogckochpbgaaField
import Derived.Test.YtidogckochpbgaaQx1
namespace Go.Proofs.Ytidogckochpbgaa.R
open Go.RowKit Go.Proofs.YtidogckochpbgaaW.PrintWords Go.Proofs.YtidogckochpbgaaW.PrintLast Go.Proofs.YtidogckochpbgaaW.PrintMore Go.Proofs.Ytidogckochpbgaa.Q GP
set_option linter.unusedVariables false
set_option linter.unusedSimpArgs false

theorem cl_two (x : Nat) : cl x 2 = 2 * x := by have := cl_pow x 1; rw [Nat.pow_one] at this; omega
theorem cl_dbl (x c : Nat) : cl (2 * x) c = 2 * cl x c := by rw [cl_comm, cl_bit0, cl_comm]
theorem fm_peasant {p d : Nat} (hd : bl p = d + 1) {x : Nat} (hx : x < 2 ^ d) (y : Nat) : fm p x y = (if y % 2 = 1 then x else 0) ^^^ fm p (fm p x 2) (y / 2) := by
  have hp : p ≠ 0 := bl_pos.1 (by omega)
  unfold fm
  rw [cl_step, pmod_xor hp, pmod_cl_left hp, cl_two, cl_dbl]
  congr 1
  split
  · exact pmod_id hd hx
  · exact pmod_zero_left _
def m8 (a b : Nat) : Nat := fm 285 a b
def i8 (a : Nat) : Nat := fpow 285 a 254
theorem m8_lt (a b : Nat) : m8 a b < 256 := fm_lt bl285 a b
theorem i8_lt (a : Nat) : i8 a < 256 := fpow_lt bl285 a _
theorem red8 {y : Nat} (h : 255 < y) (h2 : y < 2 ^ 9) : y ^^^ 285 < 256 := by
  have hx : y ^^^ 285 < 2 ^ 9 := Nat.xor_lt_two_pow h2 (by decide)
  have hb : (y ^^^ 285).testBit 8 = false := by
    rw [Nat.testBit_xor]
    have : y.testBit 8 = true := by rw [Nat.testBit_eq_decide_div_mod_eq, decide_eq_true_eq]; omega
    rw [this]; decide
  rw [Nat.testBit_eq_decide_div_mod_eq, decide_eq_false_iff_not] at hb
  omega
theorem fm8_two {x : Nat} (hx : x < 256) : fm 285 x 2 = if 255 < 2 * x then (2 * x) ^^^ 285 else 2 * x := by
  unfold fm
  rw [cl_two]
  by_cases h : 255 < 2 * x
  · rw [if_pos h]
    have h1 : pmod 285 285 = 0 := by
      have := pmod_self_mul (b := 285) (by decide) 1
      rwa [cl_comm, cl_one] at this
    have h2 := pmod_xor (b := 285) (by decide) (2 * x) 285
    rw [h1, Nat.xor_zero, pmod_id bl285 (red8 h (by omega))] at h2
    exact h2.symm
  · rw [if_neg h, pmod_id bl285 (by omega)]
theorem u8_id {n : Nat} (h : n < 256) : IntKind.u8.wrap (n : Int) = n := by rw [IntKind.wrap_u8]; omega
theorem of_u8 {a : Int} (h : (Lit.int .u8 a).wf = true) : ∃ n : Nat, a = (n : Int) ∧ n < 256 := by
  simp only [Lit.wf, IntKind.min, IntKind.max, IntKind.signed, IntKind.bits, Bool.and_eq_true, decide_eq_true_eq, Bool.false_eq_true, if_false] at h
  exact ⟨a.toNat, by omega, by omega⟩
theorem bits_and8 {a b : Nat} (ha : a < 256) (hb : b < 256) : Go.bits .and .u8 a b = ((a &&& b : Nat) : Int) := (bits_nat3 .u8 ha hb fun _ h => u8_id h).2.2
theorem bits_xor8 {a b : Nat} (ha : a < 256) (hb : b < 256) : Go.bits .xor .u8 a b = ((a ^^^ b : Nat) : Int) := (bits_nat3 .u8 ha hb fun _ h => u8_id h).1
theorem and_top {x k : Nat} (hx : x < 2 ^ (k + 1)) : x &&& 2 ^ k = if 2 ^ k - 1 < x then 2 ^ k else 0 := by
  have hp := Nat.two_pow_pos k
  have h2 : 2 ^ (k + 1) = 2 * 2 ^ k := by rw [Nat.pow_succ]; omega
  have hb : x.testBit k = decide (2 ^ k - 1 < x) := by
    rw [Nat.testBit_eq_decide_div_mod_eq]
    by_cases h : 2 ^ k - 1 < x
    · have : x / 2 ^ k = 1 := by
        have h1 : x / 2 ^ k < 2 := (Nat.div_lt_iff_lt_mul hp).2 (by omega)
        have h3 : 1 ≤ x / 2 ^ k := (Nat.le_div_iff_mul_le hp).2 (by omega)
        omega
      rw [this]; simp [h]
    · have : x / 2 ^ k = 0 := Nat.div_eq_of_lt (by omega)
      rw [this]; simp [h]
  apply Nat.eq_of_testBit_eq
  intro i
  rw [Nat.testBit_and, Nat.testBit_two_pow]
  by_cases e : k = i
  · subst e
    by_cases h : 2 ^ k - 1 < x
    · rw [hb, if_pos h, Nat.testBit_two_pow]; simp [h]
    · rw [hb, if_neg h, Nat.zero_testBit]; simp [h]
  · by_cases h : 2 ^ k - 1 < x
    · rw [if_pos h, Nat.testBit_two_pow]; simp [e]
    · rw [if_neg h, Nat.zero_testBit]; simp [e]
theorem gf8_l0 : ∀ n x y s : Nat, y < 2 ^ n → y < 256 → x < 256 → s < 256 → Ev (fun k => gf8_Mul.l0 k y x s) ((s ^^^ m8 x y : Nat) : Int) := by
  have fin : ∀ x s : Nat, s < 256 → Ev (fun k => gf8_Mul.l0 k ((0 : Nat) : Int) x s) ((s ^^^ m8 x 0 : Nat) : Int) := by
    intro x s hs
    refine Ev.step (fun k => gf8_Mul.l0.eq_2 _ _ _ k) ?_
    simp only [if_pos (show ((0 : Nat) : Int) = 0 from rfl), show ((s : Nat) : Int) % 256 = (s : Int) by omega]
    unfold m8
    rw [fm_zero, Nat.xor_zero]
    exact Ev.now _
  intro n
  induction n with
  | zero =>
    intro x y s hy _ hx hs
    obtain rfl : y = 0 := by omega
    exact fin x s hs
  | succ n ih =>
    intro x y s hy hy2 hx hs
    by_cases h0 : y = 0
    · subst h0; exact fin x s hs
    · have hm := fm_peasant bl285 hx y
      rw [fm8_two hx] at hm
      have hand : Go.bits .and .u8 (y : Int) 1 = ((y % 2 : Nat) : Int) := by
        have := bits_and8 hy2 (show 1 < 256 by decide)
        rw [Nat.and_one_is_mod] at this
        exact this
      have hw : IntKind.u64.wrap ((x : Int) * 2) = ((2 * x : Nat) : Int) := by rw [show (x : Int) * 2 = ((2 * x : Nat) : Int) by omega, u64_wrap_nat (by omega)]
      have ht : Go.bits .and .u64 ((2 * x : Nat) : Int) 256 = ((if 255 < 2 * x then 256 else 0 : Nat) : Int) := by
        have := bits_and64 (a := 2 * x) (b := 256) (by omega) (by decide)
        rw [show ((256 : Nat)) = 2 ^ 8 from rfl, and_top (by omega)] at this
        exact this
      have hx1 : Go.bits .xor .u64 ((2 * x : Nat) : Int) 285 = ((2 * x ^^^ 285 : Nat) : Int) := bits_xor64 (a := 2 * x) (b := 285) (by omega) (by decide)
      have hx2 : Go.bits .xor .u64 (s : Int) (x : Int) = ((s ^^^ x : Nat) : Int) := bits_xor64 (by omega) (by omega)
      have hsx : s ^^^ x < 256 := Nat.xor_lt_two_pow (n := 8) hs hx
      have hd : (y : Int) / 2 = ((y / 2 : Nat) : Int) := by omega
      refine Ev.step (fun k => gf8_Mul.l0.eq_2 _ _ _ k) ?_
      simp only [if_neg (show ¬ ((y : Nat) : Int) = 0 by omega), hand, hw, ht, hx1, hx2, hd]
      have hy1 : y / 2 < 2 ^ n := by rw [Nat.pow_succ] at hy; omega
      have hr : 255 < 2 * x → 2 * x ^^^ 285 < 256 := fun h => red8 h (by omega)
      unfold m8
      rw [hm]
      rcases Nat.mod_two_eq_zero_or_one y with e | e
      · rw [e] at *
        simp only [show ((0 : Nat) : Int) = 0 from rfl, if_true, show ¬ (0 : Nat) = 1 by decide, if_false, Nat.zero_xor]
        by_cases hg : 255 < 2 * x
        · simp only [if_pos hg, if_neg (show ¬ ((256 : Nat) : Int) = 0 by decide)]
          exact ih _ _ _ hy1 (by omega) (hr hg) hs
        · simp only [if_neg hg, if_pos (show ((0 : Nat) : Int) = 0 from rfl)]
          exact ih _ _ _ hy1 (by omega) (by omega) hs
      · rw [e] at *
        simp only [if_neg (show ¬ ((1 : Nat) : Int) = 0 by decide), if_true, ← Nat.xor_assoc]
        by_cases hg : 255 < 2 * x
        · simp only [if_pos hg, if_neg (show ¬ ((256 : Nat) : Int) = 0 by decide)]
          exact ih _ _ _ hy1 (by omega) (hr hg) hsx
        · simp only [if_neg hg, if_pos (show ((0 : Nat) : Int) = 0 from rfl)]
          exact ih _ _ _ hy1 (by omega) (by omega) hsx
theorem Mul8 {a b : Nat} (ha : a < 256) (hb : b < 256) : Ev (fun k => gf8_Mul.f k a b) ((m8 a b : Nat) : Int) := by
  unfold gf8_Mul.f
  rw [u64_wrap_nat (show a < 2 ^ 64 by omega)]
  have := gf8_l0 8 a b 0 (by omega) hb ha (by decide)
  rw [Nat.zero_xor] at this
  exact this
end Go.Proofs.Ytidogckochpbgaa.R
