/- The field of 2^d elements as residues of polynomials over GF(2), for any irreducible modulus; what can be run by the kernel; the two moduli 285 and 65581. Plain Lean. -/
import Derived.Test.YthldahaimcdejaaDoorPoly

set_option linter.unusedVariables false
set_option linter.unusedSectionVars false
namespace GP

/-! ### what the kernel runs -/
def clf : Nat → Nat → Nat → Nat
  | 0, _, _ => 0
  | n + 1, a, b => (if b % 2 = 1 then a else 0) ^^^ (2 * clf n a (b / 2))
def pmf : Nat → Nat → Nat → Nat
  | 0, a, _ => a
  | n + 1, a, b => if Nat.log2 a < Nat.log2 b then a else pmf n (a ^^^ b <<< (Nat.log2 a - Nat.log2 b)) b
def mulf (p a b : Nat) : Nat := pmf 32 (clf 16 a b) p
def powf (p : Nat) : Nat → Nat → Nat → Nat
  | 0, _, _ => 1
  | n + 1, a, e => if e % 2 = 1 then mulf p (powf p n (mulf p a a) (e / 2)) a else powf p n (mulf p a a) (e / 2)

/-! ### the field -/
def fm (p a b : Nat) : Nat := pmod (cl a b) p
def fpow (p a n : Nat) : Nat := pmod (pp a n) p
section
variable {p d : Nat} (h : Irr p) (hd : bl p = d + 1)
include hd in
include hd in
include hd in
include hd in
include hd in
include h hd
end
def trial (p : Nat) : Nat → Bool
  | 0 => true
  | n + 1 => pmf 20 p (n + 2) != 0 && trial p n
end GP
