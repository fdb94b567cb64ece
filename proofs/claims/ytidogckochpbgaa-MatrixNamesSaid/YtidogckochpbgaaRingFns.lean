/- What the printed functions of the ring compute, in terms of polynomials as numbers. -/
import Derived.Test.YtidogckochpbgaaQx0
import Derived.Test.YtidogckochpbgaaPoly
namespace Go.Proofs.Ytidogckochpbgaa.R
open Go.RowKit Go.Proofs.YtidogckochpbgaaW.PrintWords Go.Proofs.YtidogckochpbgaaW.PrintLast Go.Proofs.YtidogckochpbgaaW.PrintMore Go.Proofs.Ytidogckochpbgaa.Q GP
set_option linter.unusedVariables false

theorem wrap64_id {n : Int} (h : -9223372036854775808 ≤ n) (h' : n ≤ 9223372036854775807) : wrap64 n = n := by unfold wrap64; omega
theorem u64_wrap (n : Int) : IntKind.u64.wrap n = n % 18446744073709551616 := by simp [IntKind.wrap, IntKind.bits, IntKind.signed]
theorem u64_wrap_nat {n : Nat} (h : n < 2 ^ 64) : IntKind.u64.wrap (n : Int) = n := by
  rw [u64_wrap]; have : (n : Int) < 2 ^ 64 := by exact_mod_cast h
  omega
theorem u64_bits : IntKind.u64.bits = 64 := rfl
theorem bits_nat3 (k : IntKind) {a b : Nat} (ha : a < 2 ^ k.bits) (hb : b < 2 ^ k.bits) (hw : ∀ n : Nat, n < 2 ^ k.bits → k.wrap (n : Int) = n) :
    Go.bits .xor k a b = ((a ^^^ b : Nat) : Int) ∧ Go.bits .or k a b = ((a ||| b : Nat) : Int) ∧ Go.bits .and k a b = ((a &&& b : Nat) : Int) := by
  have ha' : a % 2 ^ k.bits = a := Nat.mod_eq_of_lt ha
  have hb' : b % 2 ^ k.bits = b := Nat.mod_eq_of_lt hb
  refine ⟨?_, ?_, ?_⟩
  · simp only [Go.bits, BitVec.ofInt_natCast, BitVec.toNat_xor, BitVec.toNat_ofNat, ha', hb']
    exact hw _ (Nat.xor_lt_two_pow ha hb)
  · simp only [Go.bits, BitVec.ofInt_natCast, BitVec.toNat_or, BitVec.toNat_ofNat, ha', hb']
    exact hw _ (Nat.or_lt_two_pow ha hb)
  · simp only [Go.bits, BitVec.ofInt_natCast, BitVec.toNat_and, BitVec.toNat_ofNat, ha', hb']
    exact hw _ (Nat.and_lt_two_pow _ hb)
theorem bits_natj (k : IntKind) (j : Nat) (hj : j ≤ k.bits) {a b : Nat} (ha : a < 2 ^ j) (hb : b < 2 ^ j) (hw : ∀ n : Nat, n < 2 ^ j → k.wrap (n : Int) = n) :
    Go.bits .xor k a b = ((a ^^^ b : Nat) : Int) ∧ Go.bits .or k a b = ((a ||| b : Nat) : Int) ∧ Go.bits .and k a b = ((a &&& b : Nat) : Int) := by
  have hp : 2 ^ j ≤ 2 ^ k.bits := Nat.pow_le_pow_right (by decide) hj
  have ha' : a % 2 ^ k.bits = a := Nat.mod_eq_of_lt (by omega)
  have hb' : b % 2 ^ k.bits = b := Nat.mod_eq_of_lt (by omega)
  refine ⟨?_, ?_, ?_⟩
  · simp only [Go.bits, BitVec.ofInt_natCast, BitVec.toNat_xor, BitVec.toNat_ofNat, ha', hb']
    exact hw _ (Nat.xor_lt_two_pow ha hb)
  · simp only [Go.bits, BitVec.ofInt_natCast, BitVec.toNat_or, BitVec.toNat_ofNat, ha', hb']
    exact hw _ (Nat.or_lt_two_pow ha hb)
  · simp only [Go.bits, BitVec.ofInt_natCast, BitVec.toNat_and, BitVec.toNat_ofNat, ha', hb']
    exact hw _ (Nat.and_lt_two_pow _ hb)
theorem i64_id {n : Nat} (h : n < 2 ^ 62) : IntKind.i64.wrap (n : Int) = n := by rw [IntKind.wrap_i64]; omega
theorem bits_xori {a b : Nat} (ha : a < 2 ^ 62) (hb : b < 2 ^ 62) : Go.bits .xor .i64 a b = ((a ^^^ b : Nat) : Int) := (bits_natj .i64 62 (by decide) ha hb fun _ h => i64_id h).1
theorem bits_andi {a b : Nat} (ha : a < 2 ^ 62) (hb : b < 2 ^ 62) : Go.bits .and .i64 a b = ((a &&& b : Nat) : Int) := (bits_natj .i64 62 (by decide) ha hb fun _ h => i64_id h).2.2
theorem bits_xor64 {a b : Nat} (ha : a < 2 ^ 64) (hb : b < 2 ^ 64) : Go.bits .xor .u64 a b = ((a ^^^ b : Nat) : Int) := (bits_nat3 .u64 ha hb fun _ h => u64_wrap_nat h).1
theorem bits_or64 {a b : Nat} (ha : a < 2 ^ 64) (hb : b < 2 ^ 64) : Go.bits .or .u64 a b = ((a ||| b : Nat) : Int) := (bits_nat3 .u64 ha hb fun _ h => u64_wrap_nat h).2.1
theorem bits_and64 {a b : Nat} (ha : a < 2 ^ 64) (hb : b < 2 ^ 64) : Go.bits .and .u64 a b = ((a &&& b : Nat) : Int) := (bits_nat3 .u64 ha hb fun _ h => u64_wrap_nat h).2.2
theorem shl64 {a s : Nat} (hs : s ≤ 64) (h : a * 2 ^ s < 2 ^ 64) : shl .u64 a s = ((a * 2 ^ s : Nat) : Int) := by
  unfold shl
  rw [u64_bits, Int.toNat_natCast, Nat.min_eq_left hs]
  exact u64_wrap_nat h
theorem shr64 {a s : Nat} (hs : s ≤ 64) : shr .u64 a s = ((a / 2 ^ s : Nat) : Int) := by
  unfold shr
  rw [u64_bits, Int.toNat_natCast, Nat.min_eq_left hs]
  simp
theorem bit64 {a s : Nat} (ha : a < 2 ^ 64) (hs : s ≤ 64) : Go.bits .and .u64 (shr .u64 a s) 1 = (if a.testBit s then 1 else 0 : Int) := by
  rw [shr64 hs]
  have h1 : a / 2 ^ s < 2 ^ 64 := Nat.lt_of_le_of_lt (Nat.div_le_self _ _) ha
  have := bits_and64 (a := a / 2 ^ s) (b := 1) h1 (by decide)
  rw [show ((1 : Nat) : Int) = 1 from rfl] at this
  rw [this, Nat.and_one_is_mod, Nat.testBit_eq_decide_div_mod_eq]
  rcases Nat.mod_two_eq_zero_or_one (a / 2 ^ s) with e | e <;> rw [e] <;> simp

theorem pmod_lt64 {a b : Nat} (hb : b ≠ 0) (hb64 : b < 2 ^ 64) : pmod a b < 2 ^ 64 := bl_le.1 (by have := pmod_lt hb a; have := bl_le.2 hb64; omega)
end Go.Proofs.Ytidogckochpbgaa.R
