/- What the printed functions of the ring compute, second part: residues, inverses, Rabin's test, orders. -/
import Derived.Test.YthldahaimcdejaaDoorRingFns

namespace Go.Proofs.YthldahaimcdejaaDoor.R
open Go.RowKit Go.Proofs.YthldahaimcdejaaDoorW.PrintWords Go.Proofs.YthldahaimcdejaaDoorW.PrintLast Go.Proofs.YthldahaimcdejaaDoorW.PrintMore Go.Proofs.YthldahaimcdejaaDoor.A GP
set_option linter.unusedVariables false
set_option linter.unusedSimpArgs false

end Go.Proofs.YthldahaimcdejaaDoor.R
