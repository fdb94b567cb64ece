/- How many polynomials of a piece pass Rabin's test, by the kernel: piece 2. -/
import Derived.Test.YtilacemjflomfaaRingCnt
namespace Go.Proofs.Ytilacemjflomfaa.R
open Go.Proofs.Ytilacemjflomfaa.Q GP
set_option maxRecDepth 100000
theorem cnt_1216 : tell 1216 64 = some 7 := by decide +kernel
theorem cnt_1280 : tell 1280 64 = some 7 := by decide +kernel
theorem cnt_1344 : tell 1344 64 = some 5 := by decide +kernel
theorem cnt_1408 : tell 1408 64 = some 7 := by decide +kernel
theorem cnt_1472 : tell 1472 64 = some 5 := by decide +kernel
theorem cnt_1536 : tell 1536 64 = some 6 := by decide +kernel
theorem cnt_1600 : tell 1600 64 = some 6 := by decide +kernel
end Go.Proofs.Ytilacemjflomfaa.R
