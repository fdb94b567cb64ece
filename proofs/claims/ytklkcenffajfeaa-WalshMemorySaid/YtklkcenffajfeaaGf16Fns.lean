/- What the printed functions of the field of 65536 compute. -/
import Derived.Test.YtklkcenffajfeaaRingFns2
import Derived.Test.YtklkcenffajfeaaField
import Derived.Test.YtklkcenffajfeaaAx3
namespace Go.Proofs.Ytklkcenffajfeaa.R
open Go.RowKit Go.Proofs.YtklkcenffajfeaaW.PrintWords Go.Proofs.YtklkcenffajfeaaW.PrintLast Go.Proofs.YtklkcenffajfeaaW.PrintMore Go.Proofs.Ytklkcenffajfeaa.A GP
set_option linter.unusedVariables false
set_option linter.unusedSimpArgs false

/-- The product in the field of 65536, and the inverse. -/
def m16 (a b : Nat) : Nat := fm 65581 a b
def i16 (a : Nat) : Nat := fpow 65581 a 65534
theorem u16_wrap (n : Int) : IntKind.u16.wrap n = n % 65536 := by simp [IntKind.wrap, IntKind.bits, IntKind.signed]
theorem u16_id {n : Nat} (h : n < 65536) : IntKind.u16.wrap (n : Int) = n := by rw [u16_wrap]; omega
theorem of_u16 {a : Int} (h : (Lit.int .u16 a).wf = true) : ∃ n : Nat, a = (n : Int) ∧ n < 65536 := by
  simp only [Lit.wf, IntKind.min, IntKind.max, IntKind.signed, IntKind.bits, Bool.and_eq_true, decide_eq_true_eq, Bool.false_eq_true, if_false] at h
  exact ⟨a.toNat, by omega, by omega⟩
theorem m16_lt (a b : Nat) : m16 a b < 65536 := fm_lt bl65581 a b
theorem i16_lt (a : Nat) : i16 a < 65536 := fpow_lt bl65581 a _
theorem xor16 {a b : Nat} (ha : a < 65536) (hb : b < 65536) : a ^^^ b < 65536 := Nat.xor_lt_two_pow (n := 16) ha hb
theorem bits_xor16 {a b : Nat} (ha : a < 65536) (hb : b < 65536) : Go.bits .xor .u16 a b = ((a ^^^ b : Nat) : Int) := (bits_nat3 .u16 ha hb fun _ h => u16_id h).1
theorem bits_and16 {a b : Nat} (ha : a < 65536) (hb : b < 65536) : Go.bits .and .u16 a b = ((a &&& b : Nat) : Int) := (bits_nat3 .u16 ha hb fun _ h => u16_id h).2.2
theorem Mul16 {a b : Nat} (ha : a < 65536) (hb : b < 65536) : Ev (fun k => gf16_Mul.f k a b) (m16 a b : Nat) := by
  unfold gf16_Mul.f
  rw [u64_wrap_nat (show a < 2 ^ 64 by omega), u64_wrap_nat (show b < 2 ^ 64 by omega)]
  refine Ev.bind (MulMod (a := a) (b := b) (p := 65581) (by omega) (by omega) (by rw [bl65581]; decide) (by rw [bl65581]; decide)) ?_
  have h := m16_lt a b
  have e : pmod (cl a b) 65581 = m16 a b := rfl
  rw [e, u16_id h]
  exact Ev.now _
theorem m16_inv {a : Nat} (ha : a < 65536) (h0 : a ≠ 0) : m16 (i16 a) a = 1 := fm_inv irr16 bl65581 ha h0
theorem m16_comm (a b : Nat) : m16 a b = m16 b a := fm_comm _ a b
theorem m16_assoc (a b c : Nat) : m16 (m16 a b) c = m16 a (m16 b c) := fm_assoc (by decide) a b c
theorem m16_one {a : Nat} (ha : a < 65536) : m16 a 1 = a := fm_one irr16 bl65581 ha
theorem one_m16 {a : Nat} (ha : a < 65536) : m16 1 a = a := one_fm irr16 bl65581 ha
theorem m16_zero (a : Nat) : m16 a 0 = 0 := fm_zero _ a
theorem m16_xor (a b c : Nat) : m16 a (b ^^^ c) = m16 a b ^^^ m16 a c := fm_xor_right (by decide) a b c
theorem m16_eq_zero {a b : Nat} (ha : a < 65536) (hb : b < 65536) : m16 a b = 0 ↔ a = 0 ∨ b = 0 := fm_eq_zero irr16 bl65581 ha hb
theorem gcd_one {a : Nat} (ha : a < 65536) (h0 : a ≠ 0) : pgcd a 65581 = 1 := by
  rcases irr16.gcd a with k | k
  · exact absurd ((dv_iff irr16 bl65581 ha).1 k) h0
  · exact k
end Go.Proofs.Ytklkcenffajfeaa.R
