/-
  No cell of these rows narrows 'for every input' (looked for: loops, veiled, ifaces, maps, wideKeys, modest, calm, conditions, laid).
  DERIVED. THE GIVEN ROWS OF THIS SEAT. 8 by the template 'for every input the law returns true; each argument reads behind the call as it read before'; 0 by the template 'total and deterministic' (their statements: YtklkcenffajfeaaTotals.lean).
  GIVEN WITH THE SEED: the statements are not yours to turn. If you find one false, say at which input.
  Laid BY PROGRAM, IN A SANDBOX (cutbox-rows.mjs): the forced cells as the released guide's own fill.sh prints them over the translation 8caad3e879305401… (all of the seat's roots in one cut). By AI agents, Wed Nov 11 2026. No macro, syntax, notation, axiom, sorry.
-/
import Derived.Test.YtklkcenffajfeaaChecked
import GoSem.Claim
import GoSem.ClaimJoined
import GoSem.ClaimMapViews
import Derived.JoinedTies
import Derived.KernelRfl
namespace Go.Proofs.Ytklkcenffajfeaa
/- THE CELL 'sum', in the pinned program and in every row, IS THE sha256 OF THE DUMP (.gsa) THAT YtklkcenffajfeaaProg.lean LOADS. Nothing in Lean hashes anything: it is a label: what it is worth is what the hold of that sum in a sandbox is worth. -/
noncomputable def Try.pinned : Pinned := { name := "ytklkcenffajfeaa", sum := "8caad3e879305401edb5a4eb745dd8424f1b0e6470c9ecc1796255f7198a7188", checked := Try.checked }
namespace Rows
def none {H : Type} : Left H := { results := [], args := [] }

/-- 'culletlaw15.WalshTransforms': WHATEVER THE INPUT: true; the input reads as it did. -/
def walshTransformsSpec : ChangeSpec := { name := "walshTransforms", fn := fun _ => fun
  | [d] => { results := [.lit (.bool true)], args := [d] }
  | _ => none }
def walshTransformsRow : OpenClaim := { program := "ytklkcenffajfeaa", sum := "8caad3e879305401edb5a4eb745dd8424f1b0e6470c9ecc1796255f7198a7188", func := "cullet/culletlaw15.WalshTransforms", spec := "walshTransforms", recurses := true, apart := false }
def WalshTransformsSaid : Prop := walshTransformsRow.holds Try.pinned (OpenSpec.ofChange walshTransformsSpec)

/-- ITS FALSE NEIGHBOUR: 'it returns false'. Refute it at one input. -/
def walshTransformsWrong : ChangeSpec := { name := "walshTransforms", fn := fun _ => fun
  | [d] => { results := [.lit (.bool false)], args := [d] }
  | _ => none }
def WalshTransformsWrongFalsely : Prop := walshTransformsRow.holds Try.pinned (OpenSpec.ofChange walshTransformsWrong)

/-- 'culletlaw15.WalshBack': WHATEVER THE INPUT: true; the input reads as it did. -/
def walshBackSpec : ChangeSpec := { name := "walshBack", fn := fun _ => fun
  | [d] => { results := [.lit (.bool true)], args := [d] }
  | _ => none }
def walshBackRow : OpenClaim := { program := "ytklkcenffajfeaa", sum := "8caad3e879305401edb5a4eb745dd8424f1b0e6470c9ecc1796255f7198a7188", func := "cullet/culletlaw15.WalshBack", spec := "walshBack", apart := false }
def WalshBackSaid : Prop := walshBackRow.holds Try.pinned (OpenSpec.ofChange walshBackSpec)

/-- ITS FALSE NEIGHBOUR: 'it returns false'. Refute it at one input. -/
def walshBackWrong : ChangeSpec := { name := "walshBack", fn := fun _ => fun
  | [d] => { results := [.lit (.bool false)], args := [d] }
  | _ => none }
def WalshBackWrongFalsely : Prop := walshBackRow.holds Try.pinned (OpenSpec.ofChange walshBackWrong)

/-- 'culletlaw15.WalshLocates': WHATEVER THE INPUT: true; the input reads as it did. -/
def walshLocatesSpec : ChangeSpec := { name := "walshLocates", fn := fun _ => fun
  | [d1, d2] => { results := [.lit (.bool true)], args := [d1, d2] }
  | _ => none }
def walshLocatesRow : OpenClaim := { program := "ytklkcenffajfeaa", sum := "8caad3e879305401edb5a4eb745dd8424f1b0e6470c9ecc1796255f7198a7188", func := "cullet/culletlaw15.WalshLocates", spec := "walshLocates", recurses := true, apart := false }
def WalshLocatesSaid : Prop := walshLocatesRow.holds Try.pinned (OpenSpec.ofChange walshLocatesSpec)

/-- ITS FALSE NEIGHBOUR: 'it returns false'. Refute it at one input. -/
def walshLocatesWrong : ChangeSpec := { name := "walshLocates", fn := fun _ => fun
  | [d1, d2] => { results := [.lit (.bool false)], args := [d1, d2] }
  | _ => none }
def WalshLocatesWrongFalsely : Prop := walshLocatesRow.holds Try.pinned (OpenSpec.ofChange walshLocatesWrong)

/-- 'culletlaw15.WalshConvolves': WHATEVER THE INPUT: true; the input reads as it did. -/
def walshConvolvesSpec : ChangeSpec := { name := "walshConvolves", fn := fun _ => fun
  | [d1, d2] => { results := [.lit (.bool true)], args := [d1, d2] }
  | _ => none }
def walshConvolvesRow : OpenClaim := { program := "ytklkcenffajfeaa", sum := "8caad3e879305401edb5a4eb745dd8424f1b0e6470c9ecc1796255f7198a7188", func := "cullet/culletlaw15.WalshConvolves", spec := "walshConvolves", recurses := true, apart := false }
def WalshConvolvesSaid : Prop := walshConvolvesRow.holds Try.pinned (OpenSpec.ofChange walshConvolvesSpec)

/-- ITS FALSE NEIGHBOUR: 'it returns false'. Refute it at one input. -/
def walshConvolvesWrong : ChangeSpec := { name := "walshConvolves", fn := fun _ => fun
  | [d1, d2] => { results := [.lit (.bool false)], args := [d1, d2] }
  | _ => none }
def WalshConvolvesWrongFalsely : Prop := walshConvolvesRow.holds Try.pinned (OpenSpec.ofChange walshConvolvesWrong)

/-- 'culletlaw15.WalshProducts': WHATEVER THE INPUT: true; the input reads as it did. -/
def walshProductsSpec : ChangeSpec := { name := "walshProducts", fn := fun _ => fun
  | [d1, d2, d3] => { results := [.lit (.bool true)], args := [d1, d2, d3] }
  | _ => none }
def walshProductsRow : OpenClaim := { program := "ytklkcenffajfeaa", sum := "8caad3e879305401edb5a4eb745dd8424f1b0e6470c9ecc1796255f7198a7188", func := "cullet/culletlaw15.WalshProducts", spec := "walshProducts", apart := false }
def WalshProductsSaid : Prop := walshProductsRow.holds Try.pinned (OpenSpec.ofChange walshProductsSpec)

/-- ITS FALSE NEIGHBOUR: 'it returns false'. Refute it at one input. -/
def walshProductsWrong : ChangeSpec := { name := "walshProducts", fn := fun _ => fun
  | [d1, d2, d3] => { results := [.lit (.bool false)], args := [d1, d2, d3] }
  | _ => none }
def WalshProductsWrongFalsely : Prop := walshProductsRow.holds Try.pinned (OpenSpec.ofChange walshProductsWrong)

/-- 'culletlaw15.WalshDifferences': WHATEVER THE INPUT: true; the input reads as it did. -/
def walshDifferencesSpec : ChangeSpec := { name := "walshDifferences", fn := fun _ => fun
  | [d1, d2] => { results := [.lit (.bool true)], args := [d1, d2] }
  | _ => none }
def walshDifferencesRow : OpenClaim := { program := "ytklkcenffajfeaa", sum := "8caad3e879305401edb5a4eb745dd8424f1b0e6470c9ecc1796255f7198a7188", func := "cullet/culletlaw15.WalshDifferences", spec := "walshDifferences", apart := false }
def WalshDifferencesSaid : Prop := walshDifferencesRow.holds Try.pinned (OpenSpec.ofChange walshDifferencesSpec)

/-- ITS FALSE NEIGHBOUR: 'it returns false'. Refute it at one input. -/
def walshDifferencesWrong : ChangeSpec := { name := "walshDifferences", fn := fun _ => fun
  | [d1, d2] => { results := [.lit (.bool false)], args := [d1, d2] }
  | _ => none }
def WalshDifferencesWrongFalsely : Prop := walshDifferencesRow.holds Try.pinned (OpenSpec.ofChange walshDifferencesWrong)

/-- 'culletlaw15.WalshMemory': WHATEVER THE INPUT: true; the input reads as it did. -/
def walshMemorySpec : ChangeSpec := { name := "walshMemory", fn := fun _ => fun
  | [d1, d2] => { results := [.lit (.bool true)], args := [d1, d2] }
  | _ => none }
def walshMemoryRow : OpenClaim := { program := "ytklkcenffajfeaa", sum := "8caad3e879305401edb5a4eb745dd8424f1b0e6470c9ecc1796255f7198a7188", func := "cullet/culletlaw15.WalshMemory", spec := "walshMemory", apart := false }
def WalshMemorySaid : Prop := walshMemoryRow.holds Try.pinned (OpenSpec.ofChange walshMemorySpec)

/-- ITS FALSE NEIGHBOUR: 'it returns false'. Refute it at one input. -/
def walshMemoryWrong : ChangeSpec := { name := "walshMemory", fn := fun _ => fun
  | [d1, d2] => { results := [.lit (.bool false)], args := [d1, d2] }
  | _ => none }
def WalshMemoryWrongFalsely : Prop := walshMemoryRow.holds Try.pinned (OpenSpec.ofChange walshMemoryWrong)

/-- 'culletlaw15.WalshGrows': WHATEVER THE INPUT: true; the input reads as it did. -/
def walshGrowsSpec : ChangeSpec := { name := "walshGrows", fn := fun _ => fun
  | [d1, d2, d3] => { results := [.lit (.bool true)], args := [d1, d2, d3] }
  | _ => none }
def walshGrowsRow : OpenClaim := { program := "ytklkcenffajfeaa", sum := "8caad3e879305401edb5a4eb745dd8424f1b0e6470c9ecc1796255f7198a7188", func := "cullet/culletlaw15.WalshGrows", spec := "walshGrows", apart := false }
def WalshGrowsSaid : Prop := walshGrowsRow.holds Try.pinned (OpenSpec.ofChange walshGrowsSpec)

/-- ITS FALSE NEIGHBOUR: 'it returns false'. Refute it at one input. -/
def walshGrowsWrong : ChangeSpec := { name := "walshGrows", fn := fun _ => fun
  | [d1, d2, d3] => { results := [.lit (.bool false)], args := [d1, d2, d3] }
  | _ => none }
def WalshGrowsWrongFalsely : Prop := walshGrowsRow.holds Try.pinned (OpenSpec.ofChange walshGrowsWrong)

/- THE SECOND FORM. 'bulk': how many values and letters a reading holds, each counted each time it is reached (what is shared counts as often as it is met; a slice's spare places count too). A statement '..UptoSaid' is the law's where the arguments, and the package variables that the reading takes, are together of bulk at most 1048576: NARROWER than '..Said'. Prove '..Said' where nothing that the law and all that it calls make is longer than what came in: it says more and counts as full. Else prove '..UptoSaid'. A law counts once. -/
mutual
def uptoBulk {H : Type} : DataW H → Nat
  | .lit (.string bytes) => bytes.length + 1
  | .lit _ => 1
  | .nil => 1
  | .ptr d => uptoBulk d + 1
  | .slice elems spare => uptoBulkAll elems + uptoBulkAll spare + 1
  | .agg parts => uptoBulkAll parts + 1
  | .iface _ d => uptoBulk d + 1
  | .map entries => uptoBulkEntries entries + 1
  | .held _ => 1
def uptoBulkAll {H : Type} : List (DataW H) → Nat
  | [] => 0
  | d :: r => uptoBulk d + uptoBulkAll r
def uptoBulkEntries {H : Type} : List (Lit × DataW H) → Nat
  | [] => 0
  | x :: r => uptoBulkEntry x + uptoBulkEntries r
def uptoBulkEntry {H : Type} : Lit × DataW H → Nat
  | (.string bytes, d) => bytes.length + uptoBulk d + 1
  | (_, d) => uptoBulk d + 1
 end
def uptoSmall : (H : Type) → List (DataW H) → Bool := fun _ ds => decide (uptoBulkAll ds ≤ 1048576)
def OpenSpec.upto (s : _root_.Go.ChangeSpec) : _root_.Go.OpenSpec := { _root_.Go.OpenSpec.ofChange s with cond := some uptoSmall }

/-- 'culletlaw15.WalshTransforms', WHERE WHAT IT READS IS OF BULK AT MOST 1048576: true; the input reads as it did. -/
def walshTransformsUptoRow : OpenClaim := { program := "ytklkcenffajfeaa", sum := "8caad3e879305401edb5a4eb745dd8424f1b0e6470c9ecc1796255f7198a7188", func := "cullet/culletlaw15.WalshTransforms", spec := "walshTransforms", recurses := true, apart := false, narrowed := true }
def WalshTransformsUptoSaid : Prop := walshTransformsUptoRow.holds Try.pinned (OpenSpec.upto walshTransformsSpec)

/-- 'culletlaw15.WalshBack', WHERE WHAT IT READS IS OF BULK AT MOST 1048576: true; the input reads as it did. -/
def walshBackUptoRow : OpenClaim := { program := "ytklkcenffajfeaa", sum := "8caad3e879305401edb5a4eb745dd8424f1b0e6470c9ecc1796255f7198a7188", func := "cullet/culletlaw15.WalshBack", spec := "walshBack", apart := false, narrowed := true }
def WalshBackUptoSaid : Prop := walshBackUptoRow.holds Try.pinned (OpenSpec.upto walshBackSpec)

/-- 'culletlaw15.WalshLocates', WHERE WHAT IT READS IS OF BULK AT MOST 1048576: true; the input reads as it did. -/
def walshLocatesUptoRow : OpenClaim := { program := "ytklkcenffajfeaa", sum := "8caad3e879305401edb5a4eb745dd8424f1b0e6470c9ecc1796255f7198a7188", func := "cullet/culletlaw15.WalshLocates", spec := "walshLocates", recurses := true, apart := false, narrowed := true }
def WalshLocatesUptoSaid : Prop := walshLocatesUptoRow.holds Try.pinned (OpenSpec.upto walshLocatesSpec)

/-- 'culletlaw15.WalshConvolves', WHERE WHAT IT READS IS OF BULK AT MOST 1048576: true; the input reads as it did. -/
def walshConvolvesUptoRow : OpenClaim := { program := "ytklkcenffajfeaa", sum := "8caad3e879305401edb5a4eb745dd8424f1b0e6470c9ecc1796255f7198a7188", func := "cullet/culletlaw15.WalshConvolves", spec := "walshConvolves", recurses := true, apart := false, narrowed := true }
def WalshConvolvesUptoSaid : Prop := walshConvolvesUptoRow.holds Try.pinned (OpenSpec.upto walshConvolvesSpec)

/-- 'culletlaw15.WalshProducts', WHERE WHAT IT READS IS OF BULK AT MOST 1048576: true; the input reads as it did. -/
def walshProductsUptoRow : OpenClaim := { program := "ytklkcenffajfeaa", sum := "8caad3e879305401edb5a4eb745dd8424f1b0e6470c9ecc1796255f7198a7188", func := "cullet/culletlaw15.WalshProducts", spec := "walshProducts", apart := false, narrowed := true }
def WalshProductsUptoSaid : Prop := walshProductsUptoRow.holds Try.pinned (OpenSpec.upto walshProductsSpec)

/-- 'culletlaw15.WalshDifferences', WHERE WHAT IT READS IS OF BULK AT MOST 1048576: true; the input reads as it did. -/
def walshDifferencesUptoRow : OpenClaim := { program := "ytklkcenffajfeaa", sum := "8caad3e879305401edb5a4eb745dd8424f1b0e6470c9ecc1796255f7198a7188", func := "cullet/culletlaw15.WalshDifferences", spec := "walshDifferences", apart := false, narrowed := true }
def WalshDifferencesUptoSaid : Prop := walshDifferencesUptoRow.holds Try.pinned (OpenSpec.upto walshDifferencesSpec)

/-- 'culletlaw15.WalshMemory', WHERE WHAT IT READS IS OF BULK AT MOST 1048576: true; the input reads as it did. -/
def walshMemoryUptoRow : OpenClaim := { program := "ytklkcenffajfeaa", sum := "8caad3e879305401edb5a4eb745dd8424f1b0e6470c9ecc1796255f7198a7188", func := "cullet/culletlaw15.WalshMemory", spec := "walshMemory", apart := false, narrowed := true }
def WalshMemoryUptoSaid : Prop := walshMemoryUptoRow.holds Try.pinned (OpenSpec.upto walshMemorySpec)

/-- 'culletlaw15.WalshGrows', WHERE WHAT IT READS IS OF BULK AT MOST 1048576: true; the input reads as it did. -/
def walshGrowsUptoRow : OpenClaim := { program := "ytklkcenffajfeaa", sum := "8caad3e879305401edb5a4eb745dd8424f1b0e6470c9ecc1796255f7198a7188", func := "cullet/culletlaw15.WalshGrows", spec := "walshGrows", apart := false, narrowed := true }
def WalshGrowsUptoSaid : Prop := walshGrowsUptoRow.holds Try.pinned (OpenSpec.upto walshGrowsSpec)

end Rows
end Go.Proofs.Ytklkcenffajfeaa
