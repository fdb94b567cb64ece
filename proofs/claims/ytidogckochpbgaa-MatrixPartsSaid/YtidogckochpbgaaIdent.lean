/- What the printed Identity of layer 10 computes. -/
import Derived.Test.YtidogckochpbgaaL2
import Derived.Test.YtidogckochpbgaaAx5

namespace Go.Proofs.Ytidogckochpbgaa.R
open Go.RowKit Go.Proofs.YtidogckochpbgaaW.PrintWords Go.Proofs.YtidogckochpbgaaW.PrintLast Go.Proofs.YtidogckochpbgaaW.PrintMore Go.Proofs.Ytidogckochpbgaa.A GP
set_option linter.unusedVariables false
set_option linter.unusedSimpArgs false

/-- The identity, made as far as row i. -/
def oneTo (i : Nat) : Nat → Nat → G8 := fun a b => if a < i then LA.one a b else 0
end Go.Proofs.Ytidogckochpbgaa.R
