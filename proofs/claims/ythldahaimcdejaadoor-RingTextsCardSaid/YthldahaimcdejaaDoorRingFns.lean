/- What the printed functions of the ring compute, in terms of polynomials as numbers. -/
import Derived.Test.YthldahaimcdejaaDoorAx0
import Derived.Test.YthldahaimcdejaaDoorAx1
import Derived.Test.YthldahaimcdejaaDoorAx2
import Derived.Test.YthldahaimcdejaaDoorAx4
import Derived.Test.YthldahaimcdejaaDoorAx3
import Derived.Test.YthldahaimcdejaaDoorPoly

namespace Go.Proofs.YthldahaimcdejaaDoor.R
open Go.RowKit Go.Proofs.YthldahaimcdejaaDoorW.PrintWords Go.Proofs.YthldahaimcdejaaDoorW.PrintLast Go.Proofs.YthldahaimcdejaaDoorW.PrintMore Go.Proofs.YthldahaimcdejaaDoor.A GP
set_option linter.unusedVariables false

theorem wrap64_id {n : Int} (h : -9223372036854775808 ≤ n) (h' : n ≤ 9223372036854775807) : wrap64 n = n := by unfold wrap64; omega
theorem u64_wrap (n : Int) : IntKind.u64.wrap n = n % 18446744073709551616 := by simp [IntKind.wrap, IntKind.bits, IntKind.signed]
theorem u64_wrap_nat {n : Nat} (h : n < 2 ^ 64) : IntKind.u64.wrap (n : Int) = n := by
  rw [u64_wrap]; have : (n : Int) < 2 ^ 64 := by exact_mod_cast h
  omega
theorem u64_bits : IntKind.u64.bits = 64 := rfl
theorem bits_nat3 (k : IntKind) {a b : Nat} (ha : a < 2 ^ k.bits) (hb : b < 2 ^ k.bits) (hw : ∀ n : Nat, n < 2 ^ k.bits → k.wrap (n : Int) = n) :
    Go.bits .xor k a b = ((a ^^^ b : Nat) : Int) ∧ Go.bits .or k a b = ((a ||| b : Nat) : Int) ∧ Go.bits .and k a b = ((a &&& b : Nat) : Int) := by
  have ha' : a % 2 ^ k.bits = a := Nat.mod_eq_of_lt ha
  have hb' : b % 2 ^ k.bits = b := Nat.mod_eq_of_lt hb
  refine ⟨?_, ?_, ?_⟩
  · simp only [Go.bits, BitVec.ofInt_natCast, BitVec.toNat_xor, BitVec.toNat_ofNat, ha', hb']
    exact hw _ (Nat.xor_lt_two_pow ha hb)
  · simp only [Go.bits, BitVec.ofInt_natCast, BitVec.toNat_or, BitVec.toNat_ofNat, ha', hb']
    exact hw _ (Nat.or_lt_two_pow ha hb)
  · simp only [Go.bits, BitVec.ofInt_natCast, BitVec.toNat_and, BitVec.toNat_ofNat, ha', hb']
    exact hw _ (Nat.and_lt_two_pow _ hb)
theorem bits_or64 {a b : Nat} (ha : a < 2 ^ 64) (hb : b < 2 ^ 64) : Go.bits .or .u64 a b = ((a ||| b : Nat) : Int) := (bits_nat3 .u64 ha hb fun _ h => u64_wrap_nat h).2.1
theorem bits_and64 {a b : Nat} (ha : a < 2 ^ 64) (hb : b < 2 ^ 64) : Go.bits .and .u64 a b = ((a &&& b : Nat) : Int) := (bits_nat3 .u64 ha hb fun _ h => u64_wrap_nat h).2.2
theorem shl64 {a s : Nat} (hs : s ≤ 64) (h : a * 2 ^ s < 2 ^ 64) : shl .u64 a s = ((a * 2 ^ s : Nat) : Int) := by
  unfold shl
  rw [u64_bits, Int.toNat_natCast, Nat.min_eq_left hs]
  exact u64_wrap_nat h
end Go.Proofs.YthldahaimcdejaaDoor.R
