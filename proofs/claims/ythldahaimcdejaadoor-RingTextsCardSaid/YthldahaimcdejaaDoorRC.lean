/- The number of 64 coefficients, walked by hand. -/
import Derived.Test.YthldahaimcdejaaDoorRB

namespace Go.Proofs.YthldahaimcdejaaDoor.A
open Go.RowKit Go.Deep Go.Proofs.YthldahaimcdejaaDoorW.PrintWords Go.Proofs.YthldahaimcdejaaDoorW.PrintLast Go.Proofs.YthldahaimcdejaaDoorW.PrintMore GP
set_option linter.unusedVariables false
set_option linter.unusedSimpArgs false
end Go.Proofs.YthldahaimcdejaaDoor.A
