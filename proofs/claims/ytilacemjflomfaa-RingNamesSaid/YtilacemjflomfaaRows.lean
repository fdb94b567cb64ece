/-
  No cell of these rows narrows 'for every input' (looked for: loops, veiled, ifaces, maps, wideKeys, modest, calm, conditions, laid).
  DERIVED. THE GIVEN ROWS OF THIS SEAT. 9 by the template 'for every input the law returns true; each argument reads behind the call as it read before'; 0 by the template 'total and deterministic' (their statements: YtilacemjflomfaaTotals.lean).
  GIVEN WITH THE SEED: the statements are not yours to turn. If you find one false, say at which input.
  Laid BY PROGRAM, IN A SANDBOX (cutbox-rows.mjs): the forced cells as the released guide's own fill.sh prints them over the translation 87dbaeb3224517de… (all of the seat's roots in one cut). By AI agents, Wed Nov 11 2026. No macro, syntax, notation, axiom, sorry.
-/
import Derived.Test.YtilacemjflomfaaChecked
import GoSem.Claim
import GoSem.ClaimJoined
import GoSem.ClaimMapViews
import Derived.JoinedTies
import Derived.KernelRfl
namespace Go.Proofs.Ytilacemjflomfaa
/- THE CELL 'sum', in the pinned program and in every row, IS THE sha256 OF THE DUMP (.gsa) THAT YtilacemjflomfaaProg.lean LOADS. Nothing in Lean hashes anything: it is a label: what it is worth is what the hold of that sum in a sandbox is worth. -/
noncomputable def Try.pinned : Pinned := { name := "ytilacemjflomfaa", sum := "87dbaeb3224517dea743fc0a3d3f4b8424653cbeac4acde280cc8609211c25d5", checked := Try.checked }
namespace Rows
def none {H : Type} : Left H := { results := [], args := [] }

/-- 'culletlaw11.GenerNames': WHATEVER THE INPUT: true; the input reads as it did. -/
def generNamesSpec : ChangeSpec := { name := "generNames", fn := fun _ => fun
  | [] => { results := [.lit (.bool true)], args := [] }
  | _ => none }
def generNamesRow : OpenClaim := { program := "ytilacemjflomfaa", sum := "87dbaeb3224517dea743fc0a3d3f4b8424653cbeac4acde280cc8609211c25d5", func := "cullet/culletlaw11.GenerNames", spec := "generNames", apart := false }
def GenerNamesSaid : Prop := generNamesRow.holds Try.pinned (OpenSpec.ofChange generNamesSpec)

/-- ITS FALSE NEIGHBOUR: 'it returns false'. Refute it at one input. -/
def generNamesWrong : ChangeSpec := { name := "generNames", fn := fun _ => fun
  | [] => { results := [.lit (.bool false)], args := [] }
  | _ => none }
def GenerNamesWrongFalsely : Prop := generNamesRow.holds Try.pinned (OpenSpec.ofChange generNamesWrong)

/-- 'culletlaw01.RingGreatest': WHATEVER THE INPUT: true; the input reads as it did. -/
def ringGreatestSpec : ChangeSpec := { name := "ringGreatest", fn := fun _ => fun
  | [d1, d2, d3] => { results := [.lit (.bool true)], args := [d1, d2, d3] }
  | _ => none }
def ringGreatestRow : OpenClaim := { program := "ytilacemjflomfaa", sum := "87dbaeb3224517dea743fc0a3d3f4b8424653cbeac4acde280cc8609211c25d5", func := "cullet/culletlaw01.RingGreatest", spec := "ringGreatest", apart := false }
def RingGreatestSaid : Prop := ringGreatestRow.holds Try.pinned (OpenSpec.ofChange ringGreatestSpec)

/-- ITS FALSE NEIGHBOUR: 'it returns false'. Refute it at one input. -/
def ringGreatestWrong : ChangeSpec := { name := "ringGreatest", fn := fun _ => fun
  | [d1, d2, d3] => { results := [.lit (.bool false)], args := [d1, d2, d3] }
  | _ => none }
def RingGreatestWrongFalsely : Prop := ringGreatestRow.holds Try.pinned (OpenSpec.ofChange ringGreatestWrong)

/-- 'culletlaw01.RingBezout': WHATEVER THE INPUT: true; the input reads as it did. -/
def ringBezoutSpec : ChangeSpec := { name := "ringBezout", fn := fun _ => fun
  | [d1, d2] => { results := [.lit (.bool true)], args := [d1, d2] }
  | _ => none }
def ringBezoutRow : OpenClaim := { program := "ytilacemjflomfaa", sum := "87dbaeb3224517dea743fc0a3d3f4b8424653cbeac4acde280cc8609211c25d5", func := "cullet/culletlaw01.RingBezout", spec := "ringBezout", apart := false }
def RingBezoutSaid : Prop := ringBezoutRow.holds Try.pinned (OpenSpec.ofChange ringBezoutSpec)

/-- ITS FALSE NEIGHBOUR: 'it returns false'. Refute it at one input. -/
def ringBezoutWrong : ChangeSpec := { name := "ringBezout", fn := fun _ => fun
  | [d1, d2] => { results := [.lit (.bool false)], args := [d1, d2] }
  | _ => none }
def RingBezoutWrongFalsely : Prop := ringBezoutRow.holds Try.pinned (OpenSpec.ofChange ringBezoutWrong)

/-- 'culletlaw01.RingDivides': WHATEVER THE INPUT: true; the input reads as it did. -/
def ringDividesSpec : ChangeSpec := { name := "ringDivides", fn := fun _ => fun
  | [d1, d2] => { results := [.lit (.bool true)], args := [d1, d2] }
  | _ => none }
def ringDividesRow : OpenClaim := { program := "ytilacemjflomfaa", sum := "87dbaeb3224517dea743fc0a3d3f4b8424653cbeac4acde280cc8609211c25d5", func := "cullet/culletlaw01.RingDivides", spec := "ringDivides", apart := false }
def RingDividesSaid : Prop := ringDividesRow.holds Try.pinned (OpenSpec.ofChange ringDividesSpec)

/-- ITS FALSE NEIGHBOUR: 'it returns false'. Refute it at one input. -/
def ringDividesWrong : ChangeSpec := { name := "ringDivides", fn := fun _ => fun
  | [d1, d2] => { results := [.lit (.bool false)], args := [d1, d2] }
  | _ => none }
def RingDividesWrongFalsely : Prop := ringDividesRow.holds Try.pinned (OpenSpec.ofChange ringDividesWrong)

/-- 'culletlaw01.RingCounts': WHATEVER THE INPUT: true; the input reads as it did. -/
def ringCountsSpec : ChangeSpec := { name := "ringCounts", fn := fun _ => fun
  | [d] => { results := [.lit (.bool true)], args := [d] }
  | _ => none }
def ringCountsRow : OpenClaim := { program := "ytilacemjflomfaa", sum := "87dbaeb3224517dea743fc0a3d3f4b8424653cbeac4acde280cc8609211c25d5", func := "cullet/culletlaw01.RingCounts", spec := "ringCounts", apart := false }
def RingCountsSaid : Prop := ringCountsRow.holds Try.pinned (OpenSpec.ofChange ringCountsSpec)

/-- ITS FALSE NEIGHBOUR: 'it returns false'. Refute it at one input. -/
def ringCountsWrong : ChangeSpec := { name := "ringCounts", fn := fun _ => fun
  | [d] => { results := [.lit (.bool false)], args := [d] }
  | _ => none }
def RingCountsWrongFalsely : Prop := ringCountsRow.holds Try.pinned (OpenSpec.ofChange ringCountsWrong)

/-- 'culletlaw01.RingPrime': WHATEVER THE INPUT: true; the input reads as it did. -/
def ringPrimeSpec : ChangeSpec := { name := "ringPrime", fn := fun _ => fun
  | [d1, d2, d3] => { results := [.lit (.bool true)], args := [d1, d2, d3] }
  | _ => none }
def ringPrimeRow : OpenClaim := { program := "ytilacemjflomfaa", sum := "87dbaeb3224517dea743fc0a3d3f4b8424653cbeac4acde280cc8609211c25d5", func := "cullet/culletlaw01.RingPrime", spec := "ringPrime", apart := false }
def RingPrimeSaid : Prop := ringPrimeRow.holds Try.pinned (OpenSpec.ofChange ringPrimeSpec)

/-- ITS FALSE NEIGHBOUR: 'it returns false'. Refute it at one input. -/
def ringPrimeWrong : ChangeSpec := { name := "ringPrime", fn := fun _ => fun
  | [d1, d2, d3] => { results := [.lit (.bool false)], args := [d1, d2, d3] }
  | _ => none }
def RingPrimeWrongFalsely : Prop := ringPrimeRow.holds Try.pinned (OpenSpec.ofChange ringPrimeWrong)

/-- 'culletlaw01.RingNames': WHATEVER THE INPUT: true; the input reads as it did. -/
def ringNamesSpec : ChangeSpec := { name := "ringNames", fn := fun _ => fun
  | [] => { results := [.lit (.bool true)], args := [] }
  | _ => none }
def ringNamesRow : OpenClaim := { program := "ytilacemjflomfaa", sum := "87dbaeb3224517dea743fc0a3d3f4b8424653cbeac4acde280cc8609211c25d5", func := "cullet/culletlaw01.RingNames", spec := "ringNames", apart := false }
def RingNamesSaid : Prop := ringNamesRow.holds Try.pinned (OpenSpec.ofChange ringNamesSpec)

/-- ITS FALSE NEIGHBOUR: 'it returns false'. Refute it at one input. -/
def ringNamesWrong : ChangeSpec := { name := "ringNames", fn := fun _ => fun
  | [] => { results := [.lit (.bool false)], args := [] }
  | _ => none }
def RingNamesWrongFalsely : Prop := ringNamesRow.holds Try.pinned (OpenSpec.ofChange ringNamesWrong)

/-- 'culletlaw01.RingFermat': WHATEVER THE INPUT: true; the input reads as it did. -/
def ringFermatSpec : ChangeSpec := { name := "ringFermat", fn := fun _ => fun
  | [d1, d2] => { results := [.lit (.bool true)], args := [d1, d2] }
  | _ => none }
def ringFermatRow : OpenClaim := { program := "ytilacemjflomfaa", sum := "87dbaeb3224517dea743fc0a3d3f4b8424653cbeac4acde280cc8609211c25d5", func := "cullet/culletlaw01.RingFermat", spec := "ringFermat", apart := false }
def RingFermatSaid : Prop := ringFermatRow.holds Try.pinned (OpenSpec.ofChange ringFermatSpec)

/-- ITS FALSE NEIGHBOUR: 'it returns false'. Refute it at one input. -/
def ringFermatWrong : ChangeSpec := { name := "ringFermat", fn := fun _ => fun
  | [d1, d2] => { results := [.lit (.bool false)], args := [d1, d2] }
  | _ => none }
def RingFermatWrongFalsely : Prop := ringFermatRow.holds Try.pinned (OpenSpec.ofChange ringFermatWrong)

/-- 'culletlaw01.RingOrders': WHATEVER THE INPUT: true; the input reads as it did. -/
def ringOrdersSpec : ChangeSpec := { name := "ringOrders", fn := fun _ => fun
  | [d1, d2] => { results := [.lit (.bool true)], args := [d1, d2] }
  | _ => none }
def ringOrdersRow : OpenClaim := { program := "ytilacemjflomfaa", sum := "87dbaeb3224517dea743fc0a3d3f4b8424653cbeac4acde280cc8609211c25d5", func := "cullet/culletlaw01.RingOrders", spec := "ringOrders", apart := false }
def RingOrdersSaid : Prop := ringOrdersRow.holds Try.pinned (OpenSpec.ofChange ringOrdersSpec)

/-- ITS FALSE NEIGHBOUR: 'it returns false'. Refute it at one input. -/
def ringOrdersWrong : ChangeSpec := { name := "ringOrders", fn := fun _ => fun
  | [d1, d2] => { results := [.lit (.bool false)], args := [d1, d2] }
  | _ => none }
def RingOrdersWrongFalsely : Prop := ringOrdersRow.holds Try.pinned (OpenSpec.ofChange ringOrdersWrong)

/- THE SECOND FORM. 'bulk': how many values and letters a reading holds, each counted each time it is reached (what is shared counts as often as it is met; a slice's spare places count too). A statement '..UptoSaid' is the law's where the arguments, and the package variables that the reading takes, are together of bulk at most 1048576: NARROWER than '..Said'. Prove '..Said' where nothing that the law and all that it calls make is longer than what came in: it says more and counts as full. Else prove '..UptoSaid'. A law counts once. -/
mutual
def uptoBulk {H : Type} : DataW H → Nat
  | .lit (.string bytes) => bytes.length + 1
  | .lit _ => 1
  | .nil => 1
  | .ptr d => uptoBulk d + 1
  | .slice elems spare => uptoBulkAll elems + uptoBulkAll spare + 1
  | .agg parts => uptoBulkAll parts + 1
  | .iface _ d => uptoBulk d + 1
  | .map entries => uptoBulkEntries entries + 1
  | .held _ => 1
def uptoBulkAll {H : Type} : List (DataW H) → Nat
  | [] => 0
  | d :: r => uptoBulk d + uptoBulkAll r
def uptoBulkEntries {H : Type} : List (Lit × DataW H) → Nat
  | [] => 0
  | x :: r => uptoBulkEntry x + uptoBulkEntries r
def uptoBulkEntry {H : Type} : Lit × DataW H → Nat
  | (.string bytes, d) => bytes.length + uptoBulk d + 1
  | (_, d) => uptoBulk d + 1
 end
def uptoSmall : (H : Type) → List (DataW H) → Bool := fun _ ds => decide (uptoBulkAll ds ≤ 1048576)
def OpenSpec.upto (s : _root_.Go.ChangeSpec) : _root_.Go.OpenSpec := { _root_.Go.OpenSpec.ofChange s with cond := some uptoSmall }

/-- 'culletlaw11.GenerNames', WHERE WHAT IT READS IS OF BULK AT MOST 1048576: true; the input reads as it did. -/
def generNamesUptoRow : OpenClaim := { program := "ytilacemjflomfaa", sum := "87dbaeb3224517dea743fc0a3d3f4b8424653cbeac4acde280cc8609211c25d5", func := "cullet/culletlaw11.GenerNames", spec := "generNames", apart := false, narrowed := true }
def GenerNamesUptoSaid : Prop := generNamesUptoRow.holds Try.pinned (OpenSpec.upto generNamesSpec)

/-- 'culletlaw01.RingGreatest', WHERE WHAT IT READS IS OF BULK AT MOST 1048576: true; the input reads as it did. -/
def ringGreatestUptoRow : OpenClaim := { program := "ytilacemjflomfaa", sum := "87dbaeb3224517dea743fc0a3d3f4b8424653cbeac4acde280cc8609211c25d5", func := "cullet/culletlaw01.RingGreatest", spec := "ringGreatest", apart := false, narrowed := true }
def RingGreatestUptoSaid : Prop := ringGreatestUptoRow.holds Try.pinned (OpenSpec.upto ringGreatestSpec)

/-- 'culletlaw01.RingBezout', WHERE WHAT IT READS IS OF BULK AT MOST 1048576: true; the input reads as it did. -/
def ringBezoutUptoRow : OpenClaim := { program := "ytilacemjflomfaa", sum := "87dbaeb3224517dea743fc0a3d3f4b8424653cbeac4acde280cc8609211c25d5", func := "cullet/culletlaw01.RingBezout", spec := "ringBezout", apart := false, narrowed := true }
def RingBezoutUptoSaid : Prop := ringBezoutUptoRow.holds Try.pinned (OpenSpec.upto ringBezoutSpec)

/-- 'culletlaw01.RingDivides', WHERE WHAT IT READS IS OF BULK AT MOST 1048576: true; the input reads as it did. -/
def ringDividesUptoRow : OpenClaim := { program := "ytilacemjflomfaa", sum := "87dbaeb3224517dea743fc0a3d3f4b8424653cbeac4acde280cc8609211c25d5", func := "cullet/culletlaw01.RingDivides", spec := "ringDivides", apart := false, narrowed := true }
def RingDividesUptoSaid : Prop := ringDividesUptoRow.holds Try.pinned (OpenSpec.upto ringDividesSpec)

/-- 'culletlaw01.RingCounts', WHERE WHAT IT READS IS OF BULK AT MOST 1048576: true; the input reads as it did. -/
def ringCountsUptoRow : OpenClaim := { program := "ytilacemjflomfaa", sum := "87dbaeb3224517dea743fc0a3d3f4b8424653cbeac4acde280cc8609211c25d5", func := "cullet/culletlaw01.RingCounts", spec := "ringCounts", apart := false, narrowed := true }
def RingCountsUptoSaid : Prop := ringCountsUptoRow.holds Try.pinned (OpenSpec.upto ringCountsSpec)

/-- 'culletlaw01.RingPrime', WHERE WHAT IT READS IS OF BULK AT MOST 1048576: true; the input reads as it did. -/
def ringPrimeUptoRow : OpenClaim := { program := "ytilacemjflomfaa", sum := "87dbaeb3224517dea743fc0a3d3f4b8424653cbeac4acde280cc8609211c25d5", func := "cullet/culletlaw01.RingPrime", spec := "ringPrime", apart := false, narrowed := true }
def RingPrimeUptoSaid : Prop := ringPrimeUptoRow.holds Try.pinned (OpenSpec.upto ringPrimeSpec)

/-- 'culletlaw01.RingNames', WHERE WHAT IT READS IS OF BULK AT MOST 1048576: true; the input reads as it did. -/
def ringNamesUptoRow : OpenClaim := { program := "ytilacemjflomfaa", sum := "87dbaeb3224517dea743fc0a3d3f4b8424653cbeac4acde280cc8609211c25d5", func := "cullet/culletlaw01.RingNames", spec := "ringNames", apart := false, narrowed := true }
def RingNamesUptoSaid : Prop := ringNamesUptoRow.holds Try.pinned (OpenSpec.upto ringNamesSpec)

/-- 'culletlaw01.RingFermat', WHERE WHAT IT READS IS OF BULK AT MOST 1048576: true; the input reads as it did. -/
def ringFermatUptoRow : OpenClaim := { program := "ytilacemjflomfaa", sum := "87dbaeb3224517dea743fc0a3d3f4b8424653cbeac4acde280cc8609211c25d5", func := "cullet/culletlaw01.RingFermat", spec := "ringFermat", apart := false, narrowed := true }
def RingFermatUptoSaid : Prop := ringFermatUptoRow.holds Try.pinned (OpenSpec.upto ringFermatSpec)

/-- 'culletlaw01.RingOrders', WHERE WHAT IT READS IS OF BULK AT MOST 1048576: true; the input reads as it did. -/
def ringOrdersUptoRow : OpenClaim := { program := "ytilacemjflomfaa", sum := "87dbaeb3224517dea743fc0a3d3f4b8424653cbeac4acde280cc8609211c25d5", func := "cullet/culletlaw01.RingOrders", spec := "ringOrders", apart := false, narrowed := true }
def RingOrdersUptoSaid : Prop := ringOrdersUptoRow.holds Try.pinned (OpenSpec.upto ringOrdersSpec)

end Rows
end Go.Proofs.Ytilacemjflomfaa
