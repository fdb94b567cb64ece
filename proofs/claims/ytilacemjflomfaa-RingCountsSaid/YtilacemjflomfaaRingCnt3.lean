/- How many polynomials of a piece pass Rabin's test, by the kernel: piece 3. -/
import Derived.Test.YtilacemjflomfaaRingCnt
namespace Go.Proofs.Ytilacemjflomfaa.R
open Go.Proofs.Ytilacemjflomfaa.Q GP
set_option maxRecDepth 100000
theorem cnt_1664 : tell 1664 64 = some 6 := by decide +kernel
theorem cnt_1728 : tell 1728 64 = some 6 := by decide +kernel
theorem cnt_1792 : tell 1792 64 = some 8 := by decide +kernel
theorem cnt_1856 : tell 1856 64 = some 7 := by decide +kernel
theorem cnt_1920 : tell 1920 64 = some 6 := by decide +kernel
theorem cnt_1984 : tell 1984 64 = some 6 := by decide +kernel
end Go.Proofs.Ytilacemjflomfaa.R
