/- What the printed functions of the ring compute, second part: residues, inverses, Rabin's test, orders. -/
import Derived.Test.YtklkcenffajfeaaRingFns

namespace Go.Proofs.Ytklkcenffajfeaa.R
open Go.RowKit Go.Proofs.YtklkcenffajfeaaW.PrintWords Go.Proofs.YtklkcenffajfeaaW.PrintLast Go.Proofs.YtklkcenffajfeaaW.PrintMore Go.Proofs.Ytklkcenffajfeaa.A GP
set_option linter.unusedVariables false
set_option linter.unusedSimpArgs false

end Go.Proofs.Ytklkcenffajfeaa.R
