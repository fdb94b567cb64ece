/- What the printed functions of the ring compute, third part: Rabin's test, orders, products, degrees; Bezout. -/
import Derived.Test.YthldahaimcdejaaDoorRingFns2

namespace Go.Proofs.YthldahaimcdejaaDoor.R
open Go.RowKit Go.Proofs.YthldahaimcdejaaDoorW.PrintWords Go.Proofs.YthldahaimcdejaaDoorW.PrintLast Go.Proofs.YthldahaimcdejaaDoorW.PrintMore Go.Proofs.YthldahaimcdejaaDoor.A GP
set_option linter.unusedVariables false
set_option linter.unusedSimpArgs false

/-- What the loop of Irreducible asks from round i to round m. -/
def RabinFrom (p i m : Nat) : Prop := ∀ j, i ≤ j → j ≤ m → pgcd p (pmod (pp 2 (2 ^ j)) p ^^^ pmod 2 p) = 1
/-- Rabin's test. -/
def Rabin (p : Nat) : Prop := RabinFrom p 1 ((bl p - 1) / 2)
/-- n is the order of a modulo p. -/
def IsOrd (a p n : Nat) : Prop := 1 ≤ n ∧ pmod (pp a n) p = 1 ∧ ∀ j, 1 ≤ j → j < n → pmod (pp a j) p ≠ 1
/-! arguments -/
theorem of_u64 {a : Int} (h : (Lit.int .u64 a).wf = true) : ∃ n : Nat, a = (n : Int) ∧ n < 2 ^ 64 := by
  simp only [Lit.wf, IntKind.min, IntKind.max, IntKind.signed, IntKind.bits, Bool.and_eq_true, decide_eq_true_eq, Bool.false_eq_true, if_false] at h
  exact ⟨a.toNat, by omega, by omega⟩
end Go.Proofs.YthldahaimcdejaaDoor.R
