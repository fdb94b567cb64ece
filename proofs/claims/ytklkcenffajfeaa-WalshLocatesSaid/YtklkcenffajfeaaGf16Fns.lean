/- What the printed functions of the field of 65536 compute. -/
import Derived.Test.YtklkcenffajfeaaRingFns2
import Derived.Test.YtklkcenffajfeaaField
import Derived.Test.YtklkcenffajfeaaAx3

namespace Go.Proofs.Ytklkcenffajfeaa.R
open Go.RowKit Go.Proofs.YtklkcenffajfeaaW.PrintWords Go.Proofs.YtklkcenffajfeaaW.PrintLast Go.Proofs.YtklkcenffajfeaaW.PrintMore Go.Proofs.Ytklkcenffajfeaa.A GP
set_option linter.unusedVariables false
set_option linter.unusedSimpArgs false

/-- The product in the field of 65536, and the inverse. -/
def m16 (a b : Nat) : Nat := fm 65581 a b
def i16 (a : Nat) : Nat := fpow 65581 a 65534
theorem u16_wrap (n : Int) : IntKind.u16.wrap n = n % 65536 := by simp [IntKind.wrap, IntKind.bits, IntKind.signed]
theorem u16_id {n : Nat} (h : n < 65536) : IntKind.u16.wrap (n : Int) = n := by rw [u16_wrap]; omega
theorem m16_lt (a b : Nat) : m16 a b < 65536 := fm_lt bl65581 a b
theorem xor16 {a b : Nat} (ha : a < 65536) (hb : b < 65536) : a ^^^ b < 65536 := Nat.xor_lt_two_pow (n := 16) ha hb
theorem bits_xor16 {a b : Nat} (ha : a < 65536) (hb : b < 65536) : Go.bits .xor .u16 a b = ((a ^^^ b : Nat) : Int) := (bits_nat3 .u16 ha hb fun _ h => u16_id h).1
theorem bits_and16 {a b : Nat} (ha : a < 65536) (hb : b < 65536) : Go.bits .and .u16 a b = ((a &&& b : Nat) : Int) := (bits_nat3 .u16 ha hb fun _ h => u16_id h).2.2
theorem m16_one {a : Nat} (ha : a < 65536) : m16 a 1 = a := fm_one irr16 bl65581 ha
end Go.Proofs.Ytklkcenffajfeaa.R
