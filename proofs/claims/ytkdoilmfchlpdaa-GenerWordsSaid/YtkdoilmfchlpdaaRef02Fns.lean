/- What the printed functions of the reference of layer 2 compute. -/
import Derived.Test.YtkdoilmfchlpdaaZ7
import Derived.Test.YtkdoilmfchlpdaaZ5

namespace Go.Proofs.Ytkdoilmfchlpdaa.R
open Go.RowKit Go.Proofs.YtkdoilmfchlpdaaW.PrintWords Go.Proofs.YtkdoilmfchlpdaaW.PrintLast Go.Proofs.YtkdoilmfchlpdaaW.PrintMore Go.Proofs.Ytkdoilmfchlpdaa.A GP
set_option linter.unusedVariables false
set_option linter.unusedSimpArgs false

end Go.Proofs.Ytkdoilmfchlpdaa.R
