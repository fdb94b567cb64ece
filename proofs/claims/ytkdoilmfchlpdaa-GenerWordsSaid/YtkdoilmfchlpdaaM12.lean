import Derived.Test.YtkdoilmfchlpdaaZ7
namespace Go.Proofs.Ytkdoilmfchlpdaa.A
open Go.Proofs.Ytkdoilmfchlpdaa.R
/-- Two matrices side by side. -/
def beside8 (n : Nat) (A B : Nat → Nat → G8) : Nat → Nat → G8 := fun i j => if j < n then A i j else B i (j - n)
end Go.Proofs.Ytkdoilmfchlpdaa.A
