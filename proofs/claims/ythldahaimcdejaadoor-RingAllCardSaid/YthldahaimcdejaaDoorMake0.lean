import Derived.Test.YthldahaimcdejaaDoorZ1
import Derived.Laws.MakeOwn
namespace Go.Proofs.YthldahaimcdejaaDoorW.PrintWords
open Go.RowKit Go.Deep
set_option linter.unusedVariables false
namespace Kd
section
variable {P : Program} {ops : Array Oper} {rest : List Oper} {o : Oper} {a : Act} {Q : Exit → Act → World → Prop} {α : Type}
end
end Kd
end Go.Proofs.YthldahaimcdejaaDoorW.PrintWords
