/-
  No cell of these rows narrows 'for every input' (looked for: loops, veiled, ifaces, maps, wideKeys, modest, calm, conditions, laid).
  DERIVED. THE GIVEN ROWS OF THIS SEAT. 10 by the template 'for every input the law returns true; each argument reads behind the call as it read before'; 0 by the template 'total and deterministic' (their statements: YtidogckochpbgaaTotals.lean).
  GIVEN WITH THE SEED: the statements are not yours to turn. If you find one false, say at which input.
  Laid BY PROGRAM, IN A SANDBOX (cutbox-rows.mjs): the forced cells as the released guide's own fill.sh prints them over the translation 0af32e5c38ec559a… (all of the seat's roots in one cut). By AI agents, Wed Nov 11 2026. No macro, syntax, notation, axiom, sorry.
-/
import Derived.Test.YtidogckochpbgaaChecked
import GoSem.Claim
import GoSem.ClaimJoined
import GoSem.ClaimMapViews
import Derived.JoinedTies
import Derived.KernelRfl
namespace Go.Proofs.Ytidogckochpbgaa
/- THE CELL 'sum', in the pinned program and in every row, IS THE sha256 OF THE DUMP (.gsa) THAT YtidogckochpbgaaProg.lean LOADS. Nothing in Lean hashes anything: it is a label: what it is worth is what the hold of that sum in a sandbox is worth. -/
noncomputable def Try.pinned : Pinned := { name := "ytidogckochpbgaa", sum := "0af32e5c38ec559aeb09bfccd5d2448a4515692a8e54f6722d57394db16c68c9", checked := Try.checked }
namespace Rows
def none {H : Type} : Left H := { results := [], args := [] }

/-- 'culletlaw10.MatrixNames': WHATEVER THE INPUT: true; the input reads as it did. -/
def matrixNamesSpec : ChangeSpec := { name := "matrixNames", fn := fun _ => fun
  | [] => { results := [.lit (.bool true)], args := [] }
  | _ => none }
def matrixNamesRow : OpenClaim := { program := "ytidogckochpbgaa", sum := "0af32e5c38ec559aeb09bfccd5d2448a4515692a8e54f6722d57394db16c68c9", func := "cullet/culletlaw10.MatrixNames", spec := "matrixNames", apart := false }
def MatrixNamesSaid : Prop := matrixNamesRow.holds Try.pinned (OpenSpec.ofChange matrixNamesSpec)

/-- ITS FALSE NEIGHBOUR: 'it returns false'. Refute it at one input. -/
def matrixNamesWrong : ChangeSpec := { name := "matrixNames", fn := fun _ => fun
  | [] => { results := [.lit (.bool false)], args := [] }
  | _ => none }
def MatrixNamesWrongFalsely : Prop := matrixNamesRow.holds Try.pinned (OpenSpec.ofChange matrixNamesWrong)

/-- 'culletlaw10.MatrixCauchy': WHATEVER THE INPUT: true; the input reads as it did. -/
def matrixCauchySpec : ChangeSpec := { name := "matrixCauchy", fn := fun _ => fun
  | [d] => { results := [.lit (.bool true)], args := [d] }
  | _ => none }
def matrixCauchyRow : OpenClaim := { program := "ytidogckochpbgaa", sum := "0af32e5c38ec559aeb09bfccd5d2448a4515692a8e54f6722d57394db16c68c9", func := "cullet/culletlaw10.MatrixCauchy", spec := "matrixCauchy", apart := false }
def MatrixCauchySaid : Prop := matrixCauchyRow.holds Try.pinned (OpenSpec.ofChange matrixCauchySpec)

/-- ITS FALSE NEIGHBOUR: 'it returns false'. Refute it at one input. -/
def matrixCauchyWrong : ChangeSpec := { name := "matrixCauchy", fn := fun _ => fun
  | [d] => { results := [.lit (.bool false)], args := [d] }
  | _ => none }
def MatrixCauchyWrongFalsely : Prop := matrixCauchyRow.holds Try.pinned (OpenSpec.ofChange matrixCauchyWrong)

/-- 'culletlaw10.MatrixDeterminant': WHATEVER THE INPUT: true; the input reads as it did. -/
def matrixDeterminantSpec : ChangeSpec := { name := "matrixDeterminant", fn := fun _ => fun
  | [d1, d2] => { results := [.lit (.bool true)], args := [d1, d2] }
  | _ => none }
def matrixDeterminantRow : OpenClaim := { program := "ytidogckochpbgaa", sum := "0af32e5c38ec559aeb09bfccd5d2448a4515692a8e54f6722d57394db16c68c9", func := "cullet/culletlaw10.MatrixDeterminant", spec := "matrixDeterminant", apart := false }
def MatrixDeterminantSaid : Prop := matrixDeterminantRow.holds Try.pinned (OpenSpec.ofChange matrixDeterminantSpec)

/-- ITS FALSE NEIGHBOUR: 'it returns false'. Refute it at one input. -/
def matrixDeterminantWrong : ChangeSpec := { name := "matrixDeterminant", fn := fun _ => fun
  | [d1, d2] => { results := [.lit (.bool false)], args := [d1, d2] }
  | _ => none }
def MatrixDeterminantWrongFalsely : Prop := matrixDeterminantRow.holds Try.pinned (OpenSpec.ofChange matrixDeterminantWrong)

/-- 'culletlaw10.MatrixReduced': WHATEVER THE INPUT: true; the input reads as it did. -/
def matrixReducedSpec : ChangeSpec := { name := "matrixReduced", fn := fun _ => fun
  | [d] => { results := [.lit (.bool true)], args := [d] }
  | _ => none }
def matrixReducedRow : OpenClaim := { program := "ytidogckochpbgaa", sum := "0af32e5c38ec559aeb09bfccd5d2448a4515692a8e54f6722d57394db16c68c9", func := "cullet/culletlaw10.MatrixReduced", spec := "matrixReduced", apart := false }
def MatrixReducedSaid : Prop := matrixReducedRow.holds Try.pinned (OpenSpec.ofChange matrixReducedSpec)

/-- ITS FALSE NEIGHBOUR: 'it returns false'. Refute it at one input. -/
def matrixReducedWrong : ChangeSpec := { name := "matrixReduced", fn := fun _ => fun
  | [d] => { results := [.lit (.bool false)], args := [d] }
  | _ => none }
def MatrixReducedWrongFalsely : Prop := matrixReducedRow.holds Try.pinned (OpenSpec.ofChange matrixReducedWrong)

/-- 'culletlaw10.MatrixVandermonde': WHATEVER THE INPUT: true; the input reads as it did. -/
def matrixVandermondeSpec : ChangeSpec := { name := "matrixVandermonde", fn := fun _ => fun
  | [d] => { results := [.lit (.bool true)], args := [d] }
  | _ => none }
def matrixVandermondeRow : OpenClaim := { program := "ytidogckochpbgaa", sum := "0af32e5c38ec559aeb09bfccd5d2448a4515692a8e54f6722d57394db16c68c9", func := "cullet/culletlaw10.MatrixVandermonde", spec := "matrixVandermonde", apart := false }
def MatrixVandermondeSaid : Prop := matrixVandermondeRow.holds Try.pinned (OpenSpec.ofChange matrixVandermondeSpec)

/-- ITS FALSE NEIGHBOUR: 'it returns false'. Refute it at one input. -/
def matrixVandermondeWrong : ChangeSpec := { name := "matrixVandermonde", fn := fun _ => fun
  | [d] => { results := [.lit (.bool false)], args := [d] }
  | _ => none }
def MatrixVandermondeWrongFalsely : Prop := matrixVandermondeRow.holds Try.pinned (OpenSpec.ofChange matrixVandermondeWrong)

/-- 'culletlaw10.MatrixInverse': WHATEVER THE INPUT: true; the input reads as it did. -/
def matrixInverseSpec : ChangeSpec := { name := "matrixInverse", fn := fun _ => fun
  | [d1, d2] => { results := [.lit (.bool true)], args := [d1, d2] }
  | _ => none }
def matrixInverseRow : OpenClaim := { program := "ytidogckochpbgaa", sum := "0af32e5c38ec559aeb09bfccd5d2448a4515692a8e54f6722d57394db16c68c9", func := "cullet/culletlaw10.MatrixInverse", spec := "matrixInverse", apart := false }
def MatrixInverseSaid : Prop := matrixInverseRow.holds Try.pinned (OpenSpec.ofChange matrixInverseSpec)

/-- ITS FALSE NEIGHBOUR: 'it returns false'. Refute it at one input. -/
def matrixInverseWrong : ChangeSpec := { name := "matrixInverse", fn := fun _ => fun
  | [d1, d2] => { results := [.lit (.bool false)], args := [d1, d2] }
  | _ => none }
def MatrixInverseWrongFalsely : Prop := matrixInverseRow.holds Try.pinned (OpenSpec.ofChange matrixInverseWrong)

/-- 'culletlaw10.MatrixMakes': WHATEVER THE INPUT: true; the input reads as it did. -/
def matrixMakesSpec : ChangeSpec := { name := "matrixMakes", fn := fun _ => fun
  | [d] => { results := [.lit (.bool true)], args := [d] }
  | _ => none }
def matrixMakesRow : OpenClaim := { program := "ytidogckochpbgaa", sum := "0af32e5c38ec559aeb09bfccd5d2448a4515692a8e54f6722d57394db16c68c9", func := "cullet/culletlaw10.MatrixMakes", spec := "matrixMakes", apart := false }
def MatrixMakesSaid : Prop := matrixMakesRow.holds Try.pinned (OpenSpec.ofChange matrixMakesSpec)

/-- ITS FALSE NEIGHBOUR: 'it returns false'. Refute it at one input. -/
def matrixMakesWrong : ChangeSpec := { name := "matrixMakes", fn := fun _ => fun
  | [d] => { results := [.lit (.bool false)], args := [d] }
  | _ => none }
def MatrixMakesWrongFalsely : Prop := matrixMakesRow.holds Try.pinned (OpenSpec.ofChange matrixMakesWrong)

/-- 'culletlaw10.MatrixParts': WHATEVER THE INPUT: true; the input reads as it did. -/
def matrixPartsSpec : ChangeSpec := { name := "matrixParts", fn := fun _ => fun
  | [d] => { results := [.lit (.bool true)], args := [d] }
  | _ => none }
def matrixPartsRow : OpenClaim := { program := "ytidogckochpbgaa", sum := "0af32e5c38ec559aeb09bfccd5d2448a4515692a8e54f6722d57394db16c68c9", func := "cullet/culletlaw10.MatrixParts", spec := "matrixParts", apart := false }
def MatrixPartsSaid : Prop := matrixPartsRow.holds Try.pinned (OpenSpec.ofChange matrixPartsSpec)

/-- ITS FALSE NEIGHBOUR: 'it returns false'. Refute it at one input. -/
def matrixPartsWrong : ChangeSpec := { name := "matrixParts", fn := fun _ => fun
  | [d] => { results := [.lit (.bool false)], args := [d] }
  | _ => none }
def MatrixPartsWrongFalsely : Prop := matrixPartsRow.holds Try.pinned (OpenSpec.ofChange matrixPartsWrong)

/-- 'culletlaw10.MatrixSolves': WHATEVER THE INPUT: true; the input reads as it did. -/
def matrixSolvesSpec : ChangeSpec := { name := "matrixSolves", fn := fun _ => fun
  | [d] => { results := [.lit (.bool true)], args := [d] }
  | _ => none }
def matrixSolvesRow : OpenClaim := { program := "ytidogckochpbgaa", sum := "0af32e5c38ec559aeb09bfccd5d2448a4515692a8e54f6722d57394db16c68c9", func := "cullet/culletlaw10.MatrixSolves", spec := "matrixSolves", apart := false }
def MatrixSolvesSaid : Prop := matrixSolvesRow.holds Try.pinned (OpenSpec.ofChange matrixSolvesSpec)

/-- ITS FALSE NEIGHBOUR: 'it returns false'. Refute it at one input. -/
def matrixSolvesWrong : ChangeSpec := { name := "matrixSolves", fn := fun _ => fun
  | [d] => { results := [.lit (.bool false)], args := [d] }
  | _ => none }
def MatrixSolvesWrongFalsely : Prop := matrixSolvesRow.holds Try.pinned (OpenSpec.ofChange matrixSolvesWrong)

/-- 'culletlaw10.MatrixMemory': WHATEVER THE INPUT: true; the input reads as it did. -/
def matrixMemorySpec : ChangeSpec := { name := "matrixMemory", fn := fun _ => fun
  | [d] => { results := [.lit (.bool true)], args := [d] }
  | _ => none }
def matrixMemoryRow : OpenClaim := { program := "ytidogckochpbgaa", sum := "0af32e5c38ec559aeb09bfccd5d2448a4515692a8e54f6722d57394db16c68c9", func := "cullet/culletlaw10.MatrixMemory", spec := "matrixMemory", apart := false }
def MatrixMemorySaid : Prop := matrixMemoryRow.holds Try.pinned (OpenSpec.ofChange matrixMemorySpec)

/-- ITS FALSE NEIGHBOUR: 'it returns false'. Refute it at one input. -/
def matrixMemoryWrong : ChangeSpec := { name := "matrixMemory", fn := fun _ => fun
  | [d] => { results := [.lit (.bool false)], args := [d] }
  | _ => none }
def MatrixMemoryWrongFalsely : Prop := matrixMemoryRow.holds Try.pinned (OpenSpec.ofChange matrixMemoryWrong)

/- THE SECOND FORM. 'bulk': how many values and letters a reading holds, each counted each time it is reached (what is shared counts as often as it is met; a slice's spare places count too). A statement '..UptoSaid' is the law's where the arguments, and the package variables that the reading takes, are together of bulk at most 1048576: NARROWER than '..Said'. Prove '..Said' where nothing that the law and all that it calls make is longer than what came in: it says more and counts as full. Else prove '..UptoSaid'. A law counts once. -/
mutual
def uptoBulk {H : Type} : DataW H → Nat
  | .lit (.string bytes) => bytes.length + 1
  | .lit _ => 1
  | .nil => 1
  | .ptr d => uptoBulk d + 1
  | .slice elems spare => uptoBulkAll elems + uptoBulkAll spare + 1
  | .agg parts => uptoBulkAll parts + 1
  | .iface _ d => uptoBulk d + 1
  | .map entries => uptoBulkEntries entries + 1
  | .held _ => 1
def uptoBulkAll {H : Type} : List (DataW H) → Nat
  | [] => 0
  | d :: r => uptoBulk d + uptoBulkAll r
def uptoBulkEntries {H : Type} : List (Lit × DataW H) → Nat
  | [] => 0
  | x :: r => uptoBulkEntry x + uptoBulkEntries r
def uptoBulkEntry {H : Type} : Lit × DataW H → Nat
  | (.string bytes, d) => bytes.length + uptoBulk d + 1
  | (_, d) => uptoBulk d + 1
 end
def uptoSmall : (H : Type) → List (DataW H) → Bool := fun _ ds => decide (uptoBulkAll ds ≤ 1048576)
def OpenSpec.upto (s : _root_.Go.ChangeSpec) : _root_.Go.OpenSpec := { _root_.Go.OpenSpec.ofChange s with cond := some uptoSmall }

/-- 'culletlaw10.MatrixNames', WHERE WHAT IT READS IS OF BULK AT MOST 1048576: true; the input reads as it did. -/
def matrixNamesUptoRow : OpenClaim := { program := "ytidogckochpbgaa", sum := "0af32e5c38ec559aeb09bfccd5d2448a4515692a8e54f6722d57394db16c68c9", func := "cullet/culletlaw10.MatrixNames", spec := "matrixNames", apart := false, narrowed := true }
def MatrixNamesUptoSaid : Prop := matrixNamesUptoRow.holds Try.pinned (OpenSpec.upto matrixNamesSpec)

/-- 'culletlaw10.MatrixCauchy', WHERE WHAT IT READS IS OF BULK AT MOST 1048576: true; the input reads as it did. -/
def matrixCauchyUptoRow : OpenClaim := { program := "ytidogckochpbgaa", sum := "0af32e5c38ec559aeb09bfccd5d2448a4515692a8e54f6722d57394db16c68c9", func := "cullet/culletlaw10.MatrixCauchy", spec := "matrixCauchy", apart := false, narrowed := true }
def MatrixCauchyUptoSaid : Prop := matrixCauchyUptoRow.holds Try.pinned (OpenSpec.upto matrixCauchySpec)

/-- 'culletlaw10.MatrixDeterminant', WHERE WHAT IT READS IS OF BULK AT MOST 1048576: true; the input reads as it did. -/
def matrixDeterminantUptoRow : OpenClaim := { program := "ytidogckochpbgaa", sum := "0af32e5c38ec559aeb09bfccd5d2448a4515692a8e54f6722d57394db16c68c9", func := "cullet/culletlaw10.MatrixDeterminant", spec := "matrixDeterminant", apart := false, narrowed := true }
def MatrixDeterminantUptoSaid : Prop := matrixDeterminantUptoRow.holds Try.pinned (OpenSpec.upto matrixDeterminantSpec)

/-- 'culletlaw10.MatrixReduced', WHERE WHAT IT READS IS OF BULK AT MOST 1048576: true; the input reads as it did. -/
def matrixReducedUptoRow : OpenClaim := { program := "ytidogckochpbgaa", sum := "0af32e5c38ec559aeb09bfccd5d2448a4515692a8e54f6722d57394db16c68c9", func := "cullet/culletlaw10.MatrixReduced", spec := "matrixReduced", apart := false, narrowed := true }
def MatrixReducedUptoSaid : Prop := matrixReducedUptoRow.holds Try.pinned (OpenSpec.upto matrixReducedSpec)

/-- 'culletlaw10.MatrixVandermonde', WHERE WHAT IT READS IS OF BULK AT MOST 1048576: true; the input reads as it did. -/
def matrixVandermondeUptoRow : OpenClaim := { program := "ytidogckochpbgaa", sum := "0af32e5c38ec559aeb09bfccd5d2448a4515692a8e54f6722d57394db16c68c9", func := "cullet/culletlaw10.MatrixVandermonde", spec := "matrixVandermonde", apart := false, narrowed := true }
def MatrixVandermondeUptoSaid : Prop := matrixVandermondeUptoRow.holds Try.pinned (OpenSpec.upto matrixVandermondeSpec)

/-- 'culletlaw10.MatrixInverse', WHERE WHAT IT READS IS OF BULK AT MOST 1048576: true; the input reads as it did. -/
def matrixInverseUptoRow : OpenClaim := { program := "ytidogckochpbgaa", sum := "0af32e5c38ec559aeb09bfccd5d2448a4515692a8e54f6722d57394db16c68c9", func := "cullet/culletlaw10.MatrixInverse", spec := "matrixInverse", apart := false, narrowed := true }
def MatrixInverseUptoSaid : Prop := matrixInverseUptoRow.holds Try.pinned (OpenSpec.upto matrixInverseSpec)

/-- 'culletlaw10.MatrixMakes', WHERE WHAT IT READS IS OF BULK AT MOST 1048576: true; the input reads as it did. -/
def matrixMakesUptoRow : OpenClaim := { program := "ytidogckochpbgaa", sum := "0af32e5c38ec559aeb09bfccd5d2448a4515692a8e54f6722d57394db16c68c9", func := "cullet/culletlaw10.MatrixMakes", spec := "matrixMakes", apart := false, narrowed := true }
def MatrixMakesUptoSaid : Prop := matrixMakesUptoRow.holds Try.pinned (OpenSpec.upto matrixMakesSpec)

/-- 'culletlaw10.MatrixParts', WHERE WHAT IT READS IS OF BULK AT MOST 1048576: true; the input reads as it did. -/
def matrixPartsUptoRow : OpenClaim := { program := "ytidogckochpbgaa", sum := "0af32e5c38ec559aeb09bfccd5d2448a4515692a8e54f6722d57394db16c68c9", func := "cullet/culletlaw10.MatrixParts", spec := "matrixParts", apart := false, narrowed := true }
def MatrixPartsUptoSaid : Prop := matrixPartsUptoRow.holds Try.pinned (OpenSpec.upto matrixPartsSpec)

/-- 'culletlaw10.MatrixSolves', WHERE WHAT IT READS IS OF BULK AT MOST 1048576: true; the input reads as it did. -/
def matrixSolvesUptoRow : OpenClaim := { program := "ytidogckochpbgaa", sum := "0af32e5c38ec559aeb09bfccd5d2448a4515692a8e54f6722d57394db16c68c9", func := "cullet/culletlaw10.MatrixSolves", spec := "matrixSolves", apart := false, narrowed := true }
def MatrixSolvesUptoSaid : Prop := matrixSolvesUptoRow.holds Try.pinned (OpenSpec.upto matrixSolvesSpec)

/-- 'culletlaw10.MatrixMemory', WHERE WHAT IT READS IS OF BULK AT MOST 1048576: true; the input reads as it did. -/
def matrixMemoryUptoRow : OpenClaim := { program := "ytidogckochpbgaa", sum := "0af32e5c38ec559aeb09bfccd5d2448a4515692a8e54f6722d57394db16c68c9", func := "cullet/culletlaw10.MatrixMemory", spec := "matrixMemory", apart := false, narrowed := true }
def MatrixMemoryUptoSaid : Prop := matrixMemoryUptoRow.holds Try.pinned (OpenSpec.upto matrixMemorySpec)

end Rows
end Go.Proofs.Ytidogckochpbgaa
