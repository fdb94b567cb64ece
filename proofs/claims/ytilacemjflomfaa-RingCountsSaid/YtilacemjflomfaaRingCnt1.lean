/- How many polynomials of a piece pass Rabin's test, by the kernel: piece 1. -/
import Derived.Test.YtilacemjflomfaaRingCnt
namespace Go.Proofs.Ytilacemjflomfaa.R
open Go.Proofs.Ytilacemjflomfaa.Q GP
set_option maxRecDepth 100000
theorem cnt_704 : tell 704 64 = some 5 := by decide +kernel
theorem cnt_768 : tell 768 64 = some 7 := by decide +kernel
theorem cnt_832 : tell 832 64 = some 8 := by decide +kernel
theorem cnt_896 : tell 896 64 = some 5 := by decide +kernel
theorem cnt_960 : tell 960 64 = some 8 := by decide +kernel
theorem cnt_1024 : tell 1024 64 = some 7 := by decide +kernel
theorem cnt_1088 : tell 1088 64 = some 5 := by decide +kernel
theorem cnt_1152 : tell 1152 64 = some 5 := by decide +kernel
end Go.Proofs.Ytilacemjflomfaa.R
