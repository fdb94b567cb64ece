/- The field of 2^d elements as residues of polynomials over GF(2), for any irreducible modulus; what can be run by the kernel; the two moduli 285 and 65581. Plain Lean. -/
import Derived.Test.YthldahaimcdejaaDoorPoly

set_option linter.unusedVariables false
set_option linter.unusedSectionVars false
namespace GP

/-! ### what the kernel runs -/
def clf : Nat → Nat → Nat → Nat
  | 0, _, _ => 0
  | n + 1, a, b => (if b % 2 = 1 then a else 0) ^^^ (2 * clf n a (b / 2))
def pmf : Nat → Nat → Nat → Nat
  | 0, a, _ => a
  | n + 1, a, b => if Nat.log2 a < Nat.log2 b then a else pmf n (a ^^^ b <<< (Nat.log2 a - Nat.log2 b)) b
theorem pmod_zero_left (b : Nat) : pmod 0 b = 0 := by
  by_cases hb : b = 0
  · subst hb; unfold pmod; rw [pdm_zero]
  · exact pmod_small (by rw [bl_zero]; exact bl_pos.2 hb)
def mulf (p a b : Nat) : Nat := pmf 32 (clf 16 a b) p
def powf (p : Nat) : Nat → Nat → Nat → Nat
  | 0, _, _ => 1
  | n + 1, a, e => if e % 2 = 1 then mulf p (powf p n (mulf p a a) (e / 2)) a else powf p n (mulf p a a) (e / 2)

theorem cl_lt2 {a b m n : Nat} (ha : a < 2 ^ m) (hb : b < 2 ^ n) : cl a b < 2 ^ (m + n) := by
  by_cases h0 : a = 0
  · subst h0; rw [zero_cl]; exact Nat.two_pow_pos _
  · by_cases h1 : b = 0
    · subst h1; rw [cl_zero]; exact Nat.two_pow_pos _
    · have := bl_cl h0 h1
      have := bl_le.2 ha
      have := bl_le.2 hb
      exact bl_le.1 (by omega)
/-! ### the field -/
def fm (p a b : Nat) : Nat := pmod (cl a b) p
def fpow (p a n : Nat) : Nat := pmod (pp a n) p
theorem fm_comm (p a b : Nat) : fm p a b = fm p b a := by unfold fm; rw [cl_comm]
theorem fm_xor_right {p : Nat} (hp : p ≠ 0) (a b c : Nat) : fm p a (b ^^^ c) = fm p a b ^^^ fm p a c := by unfold fm; rw [cl_xor_right, pmod_xor hp]
theorem fm_assoc {p : Nat} (hp : p ≠ 0) (a b c : Nat) : fm p (fm p a b) c = fm p a (fm p b c) := by
  unfold fm; rw [pmod_cl_left hp, pmod_cl_right hp, cl_assoc]
theorem fpow_succ {p : Nat} (hp : p ≠ 0) (a n : Nat) : fpow p a (n + 1) = fm p (fpow p a n) a := by unfold fpow fm; rw [pp_succ, pmod_cl_left hp]
section
variable {p d : Nat} (h : Irr p) (hd : bl p = d + 1)
include hd in
theorem pmod_lt_pow (a : Nat) : pmod a p < 2 ^ d := bl_le.1 (by have := pmod_lt (b := p) (bl_pos.1 (by omega)) a; omega)
include hd in
theorem pmod_id {a : Nat} (ha : a < 2 ^ d) : pmod a p = a := pmod_small (by have := bl_le.2 ha; omega)
include hd in
theorem fm_lt (a b : Nat) : fm p a b < 2 ^ d := pmod_lt_pow hd _
include hd in
theorem fpow_lt (a n : Nat) : fpow p a n < 2 ^ d := pmod_lt_pow hd _
include hd in
theorem one_lt (h : Irr p) : 1 < 2 ^ d := by
  have : 1 < bl p := lt_bl.2 h.1
  have := Nat.pow_le_pow_right (n := 2) (by decide) (show 1 ≤ d by omega)
  omega
include h hd
theorem fm_one {a : Nat} (ha : a < 2 ^ d) : fm p a 1 = a := by unfold fm; rw [cl_one, pmod_id hd ha]
theorem dv_iff {a : Nat} (ha : a < 2 ^ d) : Dv p a ↔ a = 0 := by
  rw [← pmod_eq_zero h.ne, pmod_id hd ha]
theorem fpow_full {a : Nat} (ha : a < 2 ^ d) (h0 : a ≠ 0) : fpow p a (2 ^ d - 1) = 1 := fermat h hd (fun k => h0 ((dv_iff h hd ha).1 k))
/-- The inverse. -/
theorem fm_inv {a : Nat} (ha : a < 2 ^ d) (h0 : a ≠ 0) : fm p (fpow p a (2 ^ d - 2)) a = 1 := by
  have h2 := one_lt hd h
  rw [← fpow_succ h.ne, show 2 ^ d - 2 + 1 = 2 ^ d - 1 by omega, fpow_full h hd ha h0]
end
def trial (p : Nat) : Nat → Bool
  | 0 => true
  | n + 1 => pmf 20 p (n + 2) != 0 && trial p n
end GP
