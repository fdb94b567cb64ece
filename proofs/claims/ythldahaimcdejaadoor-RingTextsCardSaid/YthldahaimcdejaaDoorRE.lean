/- The document's division, walked by hand. -/
import Derived.Test.YthldahaimcdejaaDoorRD
import Derived.Test.YthldahaimcdejaaDoorRefRing
import Derived.Test.YthldahaimcdejaaDoorQuietC

namespace Go.Proofs.YthldahaimcdejaaDoor.A
open Go.RowKit Go.Deep Go.Proofs.YthldahaimcdejaaDoor.R Go.Proofs.YthldahaimcdejaaDoorW.PrintWords Go.Proofs.YthldahaimcdejaaDoorW.PrintLast Go.Proofs.YthldahaimcdejaaDoorW.PrintMore GP
set_option linter.unusedVariables false
set_option linter.unusedSimpArgs false
/-- r while b times 2^k is being added to it, as far as j. -/
def rr (r b k j x : Nat) : Nat := if x < k + j then cf (r ^^^ b * 2 ^ k) x else cf r x
end Go.Proofs.YthldahaimcdejaaDoor.A
