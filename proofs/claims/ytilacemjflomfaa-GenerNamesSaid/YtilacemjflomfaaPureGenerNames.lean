/-
GenerNames: the closed law culletlaw11.GenerNames answers true (families, limits and errors have their numbers). No condition.
-/
import Derived.Test.YtilacemjflomfaaQGenerNamesx1
namespace Go.Proofs.Ytilacemjflomfaa.Pure
open Go.RowKit Go.Proofs.Ytilacemjflomfaa.QGenerNames Go.Proofs.YtilacemjflomfaaW.PrintWords Go.Proofs.YtilacemjflomfaaW.PrintLast

theorem GenerNames : culletlaw11_GenerNames.Pure := by
  show culletlaw11_GenerNames.f = some true
  rfl

end Go.Proofs.Ytilacemjflomfaa.Pure
