/- Regions that draw their order: reads and calls that only read, in whatever order, ahead of a tail in one forced order. -/
import Derived.StillTail
import Derived.Deep.Quiet
import Derived.Deep.QuietTactic

namespace Go.Proofs.YthldahaimcdejaaDoor.R
open Go
variable {P : Program} {ops : Array Oper} {md : Region.Mode} {C : World → Prop}
def anyQ (P : Program) (md : Region.Mode) (ops : Array Oper) (C : World → Prop) (n : Nat) (L : Array Bool → Act → Prop) : Nat → Array Bool → Act → Prop
  | 0, listed, a => L listed a
  | f + 1, listed, a => Region.ready md ops listed ≠ [] ∧ ∀ i ∈ Region.ready md ops listed, i < n ∧ qOp P ops C i (anyQ P md ops C n L f (listed.setIfInBounds i true)) a
end Go.Proofs.YthldahaimcdejaaDoor.R
