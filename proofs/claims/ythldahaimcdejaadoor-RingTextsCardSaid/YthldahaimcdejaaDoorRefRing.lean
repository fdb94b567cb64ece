/- What the document's functions of the ring compute, first part: degree. -/
import Derived.Test.YthldahaimcdejaaDoorRingFns
import Derived.Test.YthldahaimcdejaaDoorAx5

namespace Go.Proofs.YthldahaimcdejaaDoor.R
open Go.RowKit Go.Proofs.YthldahaimcdejaaDoorW.PrintWords Go.Proofs.YthldahaimcdejaaDoorW.PrintLast Go.Proofs.YthldahaimcdejaaDoorW.PrintMore Go.Proofs.YthldahaimcdejaaDoor.A GP
set_option linter.unusedVariables false
set_option linter.unusedSimpArgs false
end Go.Proofs.YthldahaimcdejaaDoor.R
