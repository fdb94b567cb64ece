/- What the printed functions of the reference of layer 3 compute. -/
import Derived.Test.YtklkcenffajfeaaGf16Fns
import Derived.Test.YtklkcenffajfeaaAx1
namespace Go.Proofs.Ytklkcenffajfeaa.R
open Go.RowKit Go.Proofs.YtklkcenffajfeaaW.PrintWords Go.Proofs.YtklkcenffajfeaaW.PrintLast Go.Proofs.YtklkcenffajfeaaW.PrintMore Go.Proofs.Ytklkcenffajfeaa.A GP
set_option linter.unusedVariables false
set_option linter.unusedSimpArgs false

theorem u32_id {n : Nat} (h : n < 2 ^ 32) : IntKind.u32.wrap (n : Int) = n := by rw [IntKind.wrap_u32]; omega
theorem bits_xor32 {a b : Nat} (ha : a < 2 ^ 32) (hb : b < 2 ^ 32) : Go.bits .xor .u32 a b = ((a ^^^ b : Nat) : Int) := (bits_nat3 .u32 ha hb fun _ h => u32_id h).1
theorem shl32 {a s : Nat} (hs : s ≤ 32) (h : a * 2 ^ s < 2 ^ 32) : shl .u32 a s = ((a * 2 ^ s : Nat) : Int) := by
  unfold shl
  rw [show IntKind.u32.bits = 32 from rfl, Int.toNat_natCast, Nat.min_eq_left hs]
  exact u32_id h
theorem bit_u16 {a s : Nat} (ha : a < 65536) (hs : s ≤ 16) : Go.bits .and .u16 (shr .u16 a s) 1 = (if a.testBit s then 1 else 0 : Int) := by
  have e : shr .u16 a s = ((a / 2 ^ s : Nat) : Int) := by
    unfold shr
    rw [show IntKind.u16.bits = 16 from rfl, Int.toNat_natCast, Nat.min_eq_left hs]
    simp
  rw [e]
  have h1 : a / 2 ^ s < 65536 := Nat.lt_of_le_of_lt (Nat.div_le_self _ _) ha
  have := bits_and16 (a := a / 2 ^ s) (b := 1) h1 (by decide)
  rw [show ((1 : Nat) : Int) = 1 from rfl] at this
  rw [this, Nat.and_one_is_mod, Nat.testBit_eq_decide_div_mod_eq]
  rcases Nat.mod_two_eq_zero_or_one (a / 2 ^ s) with e | e <;> rw [e] <;> simp
theorem bit_u32 {a s : Nat} (ha : a < 2 ^ 32) (hs : s ≤ 32) : Go.bits .and .u32 (shr .u32 a s) 1 = (if a.testBit s then 1 else 0 : Int) := by
  have e : shr .u32 a s = ((a / 2 ^ s : Nat) : Int) := by
    unfold shr
    rw [show IntKind.u32.bits = 32 from rfl, Int.toNat_natCast, Nat.min_eq_left hs]
    simp
  rw [e]
  have h1 : a / 2 ^ s < 2 ^ 32 := Nat.lt_of_le_of_lt (Nat.div_le_self _ _) ha
  have := (bits_nat3 .u32 (a := a / 2 ^ s) (b := 1) h1 (by decide) fun _ h => u32_id h).2.2
  rw [show ((1 : Nat) : Int) = 1 from rfl] at this
  rw [this, Nat.and_one_is_mod, Nat.testBit_eq_decide_div_mod_eq]
  rcases Nat.mod_two_eq_zero_or_one (a / 2 ^ s) with e | e <;> rw [e] <;> simp
def p16 (a n : Nat) : Nat := fpow 65581 a n
theorem p16_lt (a n : Nat) : p16 a n < 65536 := fpow_lt bl65581 a n
theorem p16_zero (a : Nat) : p16 a 0 = 1 := by unfold p16; rw [fpow_zero, pmod_one irr16 bl65581]
theorem p16_succ (a n : Nat) : p16 a (n + 1) = m16 (p16 a n) a := fpow_succ (by decide) a n
theorem p16_double (a m : Nat) : p16 (m16 a a) m = p16 a (2 * m) := by
  unfold p16 m16 fpow fm; rw [pp_pmod (by decide), ← pp_two, ← pp_mul]
theorem i16_p (a : Nat) : i16 a = p16 a 65534 := rfl
theorem res_bound (n : Int) : -65535 < Int.tmod n 65535 ∧ Int.tmod n 65535 < 65535 := by
  have h1 := Int.tmod_lt_of_pos n (b := 65535) (by decide)
  have h2 := Int.lt_tmod_of_pos n (b := 65535) (by decide)
  omega
/-- n modulo 65535, from 0 on. -/
def res (n : Int) : Nat := (if Int.tmod n 65535 < 0 then Int.tmod n 65535 + 65535 else Int.tmod n 65535).toNat
theorem res_lt (n : Int) : res n < 65535 := by unfold res; have := res_bound n; split <;> omega
theorem residue (n : Int) : gf16_residue.f n = some ((res n : Nat) : Int) := by
  unfold gf16_residue.f res
  have := res_bound n
  split
  · rw [wrap64_id (by omega) (by omega)]; congr 1; omega
  · congr 1; omega
end Go.Proofs.Ytklkcenffajfeaa.R
