/- The coefficients of a number, of a product, of remainders on the way. Plain Lean. -/
import Derived.Test.YthldahaimcdejaaDoorField

set_option linter.unusedVariables false
set_option linter.unusedSimpArgs false
namespace GP
/-- The coefficient i of a. -/
def cf (a i : Nat) : Nat := if a.testBit i then 1 else 0
theorem cf_mod (a i : Nat) : a / 2 ^ i % 2 = cf a i := by
  unfold cf
  rw [Nat.testBit_eq_decide_div_mod_eq]
  rcases Nat.mod_two_eq_zero_or_one (a / 2 ^ i) with h | h <;> simp [h]
/-- The sum over i < t of a's coefficient i times b's coefficient n - i, modulo 2. -/
def cv (a b n : Nat) : Nat → Nat
  | 0 => 0
  | t + 1 => (cv a b n t + cf a t * cf b (n - t)) % 2
/-- What the document's division does on the coefficients. -/
def dm (a b d : Nat) : Nat → Nat × Nat
  | 0 => (0, a)
  | t + 1 => if (dm a b d t).2.testBit (63 - t) then ((dm a b d t).1 ^^^ 2 ^ (63 - d - t), (dm a b d t).2 ^^^ b * 2 ^ (63 - d - t)) else dm a b d t
end GP
