/- The document's product, walked by hand. -/
import Derived.Test.YthldahaimcdejaaDoorRC
import Derived.Test.YthldahaimcdejaaDoorQuietTail

namespace Go.Proofs.YthldahaimcdejaaDoor.A
open Go.RowKit Go.Deep Go.Proofs.YthldahaimcdejaaDoor.R Go.Proofs.YthldahaimcdejaaDoorW.PrintWords Go.Proofs.YthldahaimcdejaaDoorW.PrintLast Go.Proofs.YthldahaimcdejaaDoorW.PrintMore GP
set_option linter.unusedVariables false
set_option linter.unusedSimpArgs false
/-- The walk's z while column n is being summed. -/
def zz (a b n i j : Nat) : Nat := if j < n then cf (cl a b) j else if j = n then cv a b n i else 0
end Go.Proofs.YthldahaimcdejaaDoor.A
