/- Regions that draw their order: reads, and calls that leave a world of a class, in whatever order. -/
import Derived.Test.YthldahaimcdejaaDoorZ1
import Derived.Deep.Quiet
import Derived.Deep.QuietTactic

namespace Go.Proofs.YthldahaimcdejaaDoor.R
open Go Go.RowKit Go.Deep Go.Proofs.YthldahaimcdejaaDoorW.PrintWords Go.Proofs.YthldahaimcdejaaDoorW.PrintLast Go.Proofs.YthldahaimcdejaaDoorW.PrintMore
variable {P : Program} {ops : Array Oper} {C : World → Prop}
end Go.Proofs.YthldahaimcdejaaDoor.R
