-- Printed for this claim by mp.py, a program of its prover, through the kit's print. Lean checks it.
import Derived.Test.YtidogckochpbgaaAx0
import Derived.Test.YtidogckochpbgaaAx1
import Derived.Test.YtidogckochpbgaaAx2
import Derived.Test.YtidogckochpbgaaAx3
import Derived.Test.YtidogckochpbgaaAx4
import Derived.Test.YtidogckochpbgaaAx5
import Derived.Test.YtidogckochpbgaaAx6
import Derived.Test.YtidogckochpbgaaAx7
import Derived.Test.YtidogckochpbgaaAx8
import Derived.Test.YtidogckochpbgaaAx9
namespace Go.Proofs.Ytidogckochpbgaa.A
open Go.RowKit Go.Proofs.YtidogckochpbgaaW.PrintWords Go.Proofs.YtidogckochpbgaaW.PrintLast Go.Proofs.YtidogckochpbgaaW.PrintMore
attribute [local go_sem] max2_int min2_int max_two min_two max_three min_three max_four min_four   -- for this text's walks alone
set_option linter.unusedVariables false
set_option linter.unusedSimpArgs false

end Go.Proofs.Ytidogckochpbgaa.A
