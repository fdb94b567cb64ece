/- How many polynomials of a piece pass Rabin's test, by the kernel: piece 0. -/
import Derived.Test.YtilacemjflomfaaRingCnt
namespace Go.Proofs.Ytilacemjflomfaa.R
open Go.Proofs.Ytilacemjflomfaa.Q GP
set_option maxRecDepth 100000
theorem cnt_2 : tell 2 2 = some 2 := by decide +kernel
theorem cnt_4 : tell 4 4 = some 1 := by decide +kernel
theorem cnt_8 : tell 8 8 = some 2 := by decide +kernel
theorem cnt_16 : tell 16 16 = some 3 := by decide +kernel
theorem cnt_32 : tell 32 32 = some 6 := by decide +kernel
theorem cnt_64 : tell 64 64 = some 9 := by decide +kernel
theorem cnt_128 : tell 128 64 = some 9 := by decide +kernel
theorem cnt_192 : tell 192 64 = some 9 := by decide +kernel
theorem cnt_256 : tell 256 64 = some 6 := by decide +kernel
theorem cnt_320 : tell 320 64 = some 8 := by decide +kernel
theorem cnt_384 : tell 384 64 = some 8 := by decide +kernel
theorem cnt_448 : tell 448 64 = some 8 := by decide +kernel
theorem cnt_512 : tell 512 64 = some 7 := by decide +kernel
theorem cnt_576 : tell 576 64 = some 8 := by decide +kernel
theorem cnt_640 : tell 640 64 = some 8 := by decide +kernel
end Go.Proofs.Ytilacemjflomfaa.R
