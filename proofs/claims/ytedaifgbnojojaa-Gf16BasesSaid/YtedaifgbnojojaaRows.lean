/-
  No cell of these rows narrows 'for every input' (looked for: loops, veiled, ifaces, maps, wideKeys, modest, calm, conditions, laid).
  DERIVED. THE GIVEN ROWS OF THIS SEAT. 10 by the template 'for every input the law returns true; each argument reads behind the call as it read before'; 0 by the template 'total and deterministic' (their statements: YtedaifgbnojojaaTotals.lean).
  GIVEN WITH THE SEED: the statements are not yours to turn. If you find one false, say at which input.
  Laid BY PROGRAM, IN A SANDBOX (cutbox-rows.mjs): the forced cells as the released guide's own fill.sh prints them over the translation 6a6870f78bd4fe50… (all of the seat's roots in one cut). By AI agents, Wed Nov 11 2026. No macro, syntax, notation, axiom, sorry.
-/
import Derived.Test.YtedaifgbnojojaaChecked
import GoSem.Claim
import GoSem.ClaimJoined
import GoSem.ClaimMapViews
import Derived.JoinedTies
import Derived.KernelRfl
namespace Go.Proofs.Ytedaifgbnojojaa
/- THE CELL 'sum', in the pinned program and in every row, IS THE sha256 OF THE DUMP (.gsa) THAT YtedaifgbnojojaaProg.lean LOADS. Nothing in Lean hashes anything: it is a label: what it is worth is what the hold of that sum in a sandbox is worth. -/
noncomputable def Try.pinned : Pinned := { name := "ytedaifgbnojojaa", sum := "6a6870f78bd4fe50ceefb3370d95da09d84e64845fbe1acc6d8cd2831c451390", checked := Try.checked }
namespace Rows
def none {H : Type} : Left H := { results := [], args := [] }

/-- 'culletlaw03.Gf16Tables': WHATEVER THE INPUT: true; the input reads as it did. -/
def gf16TablesSpec : ChangeSpec := { name := "gf16Tables", fn := fun _ => fun
  | [d] => { results := [.lit (.bool true)], args := [d] }
  | _ => none }
def gf16TablesRow : OpenClaim := { program := "ytedaifgbnojojaa", sum := "6a6870f78bd4fe50ceefb3370d95da09d84e64845fbe1acc6d8cd2831c451390", func := "cullet/culletlaw03.Gf16Tables", spec := "gf16Tables", apart := false }
def Gf16TablesSaid : Prop := gf16TablesRow.holds Try.pinned (OpenSpec.ofChange gf16TablesSpec)

/-- ITS FALSE NEIGHBOUR: 'it returns false'. Refute it at one input. -/
def gf16TablesWrong : ChangeSpec := { name := "gf16Tables", fn := fun _ => fun
  | [d] => { results := [.lit (.bool false)], args := [d] }
  | _ => none }
def Gf16TablesWrongFalsely : Prop := gf16TablesRow.holds Try.pinned (OpenSpec.ofChange gf16TablesWrong)

/-- 'culletlaw03.Gf16Field': WHATEVER THE INPUT: true; the input reads as it did. -/
def gf16FieldSpec : ChangeSpec := { name := "gf16Field", fn := fun _ => fun
  | [d1, d2, d3] => { results := [.lit (.bool true)], args := [d1, d2, d3] }
  | _ => none }
def gf16FieldRow : OpenClaim := { program := "ytedaifgbnojojaa", sum := "6a6870f78bd4fe50ceefb3370d95da09d84e64845fbe1acc6d8cd2831c451390", func := "cullet/culletlaw03.Gf16Field", spec := "gf16Field", apart := false }
def Gf16FieldSaid : Prop := gf16FieldRow.holds Try.pinned (OpenSpec.ofChange gf16FieldSpec)

/-- ITS FALSE NEIGHBOUR: 'it returns false'. Refute it at one input. -/
def gf16FieldWrong : ChangeSpec := { name := "gf16Field", fn := fun _ => fun
  | [d1, d2, d3] => { results := [.lit (.bool false)], args := [d1, d2, d3] }
  | _ => none }
def Gf16FieldWrongFalsely : Prop := gf16FieldRow.holds Try.pinned (OpenSpec.ofChange gf16FieldWrong)

/-- 'culletlaw03.Gf16Cantor': WHATEVER THE INPUT: true; the input reads as it did. -/
def gf16CantorSpec : ChangeSpec := { name := "gf16Cantor", fn := fun _ => fun
  | [d1, d2] => { results := [.lit (.bool true)], args := [d1, d2] }
  | _ => none }
def gf16CantorRow : OpenClaim := { program := "ytedaifgbnojojaa", sum := "6a6870f78bd4fe50ceefb3370d95da09d84e64845fbe1acc6d8cd2831c451390", func := "cullet/culletlaw03.Gf16Cantor", spec := "gf16Cantor", apart := false }
def Gf16CantorSaid : Prop := gf16CantorRow.holds Try.pinned (OpenSpec.ofChange gf16CantorSpec)

/-- ITS FALSE NEIGHBOUR: 'it returns false'. Refute it at one input. -/
def gf16CantorWrong : ChangeSpec := { name := "gf16Cantor", fn := fun _ => fun
  | [d1, d2] => { results := [.lit (.bool false)], args := [d1, d2] }
  | _ => none }
def Gf16CantorWrongFalsely : Prop := gf16CantorRow.holds Try.pinned (OpenSpec.ofChange gf16CantorWrong)

/-- 'culletlaw03.Gf16Logs': WHATEVER THE INPUT: true; the input reads as it did. -/
def gf16LogsSpec : ChangeSpec := { name := "gf16Logs", fn := fun _ => fun
  | [d1, d2, d3] => { results := [.lit (.bool true)], args := [d1, d2, d3] }
  | _ => none }
def gf16LogsRow : OpenClaim := { program := "ytedaifgbnojojaa", sum := "6a6870f78bd4fe50ceefb3370d95da09d84e64845fbe1acc6d8cd2831c451390", func := "cullet/culletlaw03.Gf16Logs", spec := "gf16Logs", apart := false }
def Gf16LogsSaid : Prop := gf16LogsRow.holds Try.pinned (OpenSpec.ofChange gf16LogsSpec)

/-- ITS FALSE NEIGHBOUR: 'it returns false'. Refute it at one input. -/
def gf16LogsWrong : ChangeSpec := { name := "gf16Logs", fn := fun _ => fun
  | [d1, d2, d3] => { results := [.lit (.bool false)], args := [d1, d2, d3] }
  | _ => none }
def Gf16LogsWrongFalsely : Prop := gf16LogsRow.holds Try.pinned (OpenSpec.ofChange gf16LogsWrong)

/-- 'culletlaw03.Gf16Bases': WHATEVER THE INPUT: true; the input reads as it did. -/
def gf16BasesSpec : ChangeSpec := { name := "gf16Bases", fn := fun _ => fun
  | [d] => { results := [.lit (.bool true)], args := [d] }
  | _ => none }
def gf16BasesRow : OpenClaim := { program := "ytedaifgbnojojaa", sum := "6a6870f78bd4fe50ceefb3370d95da09d84e64845fbe1acc6d8cd2831c451390", func := "cullet/culletlaw03.Gf16Bases", spec := "gf16Bases", apart := false }
def Gf16BasesSaid : Prop := gf16BasesRow.holds Try.pinned (OpenSpec.ofChange gf16BasesSpec)

/-- ITS FALSE NEIGHBOUR: 'it returns false'. Refute it at one input. -/
def gf16BasesWrong : ChangeSpec := { name := "gf16Bases", fn := fun _ => fun
  | [d] => { results := [.lit (.bool false)], args := [d] }
  | _ => none }
def Gf16BasesWrongFalsely : Prop := gf16BasesRow.holds Try.pinned (OpenSpec.ofChange gf16BasesWrong)

/-- 'culletlaw03.Gf16Subfields': WHATEVER THE INPUT: true; the input reads as it did. -/
def gf16SubfieldsSpec : ChangeSpec := { name := "gf16Subfields", fn := fun _ => fun
  | [d1, d2] => { results := [.lit (.bool true)], args := [d1, d2] }
  | _ => none }
def gf16SubfieldsRow : OpenClaim := { program := "ytedaifgbnojojaa", sum := "6a6870f78bd4fe50ceefb3370d95da09d84e64845fbe1acc6d8cd2831c451390", func := "cullet/culletlaw03.Gf16Subfields", spec := "gf16Subfields", apart := false }
def Gf16SubfieldsSaid : Prop := gf16SubfieldsRow.holds Try.pinned (OpenSpec.ofChange gf16SubfieldsSpec)

/-- ITS FALSE NEIGHBOUR: 'it returns false'. Refute it at one input. -/
def gf16SubfieldsWrong : ChangeSpec := { name := "gf16Subfields", fn := fun _ => fun
  | [d1, d2] => { results := [.lit (.bool false)], args := [d1, d2] }
  | _ => none }
def Gf16SubfieldsWrongFalsely : Prop := gf16SubfieldsRow.holds Try.pinned (OpenSpec.ofChange gf16SubfieldsWrong)

/-- 'cullettop.WholeBasis': WHATEVER THE INPUT: true; the input reads as it did. -/
def wholeBasisSpec : ChangeSpec := { name := "wholeBasis", fn := fun _ => fun
  | [d1, d2] => { results := [.lit (.bool true)], args := [d1, d2] }
  | _ => none }
def wholeBasisRow : OpenClaim := { program := "ytedaifgbnojojaa", sum := "6a6870f78bd4fe50ceefb3370d95da09d84e64845fbe1acc6d8cd2831c451390", func := "cullet/cullettop.WholeBasis", spec := "wholeBasis", apart := false }
def WholeBasisSaid : Prop := wholeBasisRow.holds Try.pinned (OpenSpec.ofChange wholeBasisSpec)

/-- ITS FALSE NEIGHBOUR: 'it returns false'. Refute it at one input. -/
def wholeBasisWrong : ChangeSpec := { name := "wholeBasis", fn := fun _ => fun
  | [d1, d2] => { results := [.lit (.bool false)], args := [d1, d2] }
  | _ => none }
def WholeBasisWrongFalsely : Prop := wholeBasisRow.holds Try.pinned (OpenSpec.ofChange wholeBasisWrong)

/-- 'culletlaw03.Gf16Traces': WHATEVER THE INPUT: true; the input reads as it did. -/
def gf16TracesSpec : ChangeSpec := { name := "gf16Traces", fn := fun _ => fun
  | [d1, d2] => { results := [.lit (.bool true)], args := [d1, d2] }
  | _ => none }
def gf16TracesRow : OpenClaim := { program := "ytedaifgbnojojaa", sum := "6a6870f78bd4fe50ceefb3370d95da09d84e64845fbe1acc6d8cd2831c451390", func := "cullet/culletlaw03.Gf16Traces", spec := "gf16Traces", apart := false }
def Gf16TracesSaid : Prop := gf16TracesRow.holds Try.pinned (OpenSpec.ofChange gf16TracesSpec)

/-- ITS FALSE NEIGHBOUR: 'it returns false'. Refute it at one input. -/
def gf16TracesWrong : ChangeSpec := { name := "gf16Traces", fn := fun _ => fun
  | [d1, d2] => { results := [.lit (.bool false)], args := [d1, d2] }
  | _ => none }
def Gf16TracesWrongFalsely : Prop := gf16TracesRow.holds Try.pinned (OpenSpec.ofChange gf16TracesWrong)

/-- 'culletlaw03.Gf16Calls': WHATEVER THE INPUT: true; the input reads as it did. -/
def gf16CallsSpec : ChangeSpec := { name := "gf16Calls", fn := fun _ => fun
  | [d] => { results := [.lit (.bool true)], args := [d] }
  | _ => none }
def gf16CallsRow : OpenClaim := { program := "ytedaifgbnojojaa", sum := "6a6870f78bd4fe50ceefb3370d95da09d84e64845fbe1acc6d8cd2831c451390", func := "cullet/culletlaw03.Gf16Calls", spec := "gf16Calls", apart := false }
def Gf16CallsSaid : Prop := gf16CallsRow.holds Try.pinned (OpenSpec.ofChange gf16CallsSpec)

/-- ITS FALSE NEIGHBOUR: 'it returns false'. Refute it at one input. -/
def gf16CallsWrong : ChangeSpec := { name := "gf16Calls", fn := fun _ => fun
  | [d] => { results := [.lit (.bool false)], args := [d] }
  | _ => none }
def Gf16CallsWrongFalsely : Prop := gf16CallsRow.holds Try.pinned (OpenSpec.ofChange gf16CallsWrong)

/-- 'cullettop.WholeFields': WHATEVER THE INPUT: true; the input reads as it did. -/
def wholeFieldsSpec : ChangeSpec := { name := "wholeFields", fn := fun _ => fun
  | [d1, d2] => { results := [.lit (.bool true)], args := [d1, d2] }
  | _ => none }
def wholeFieldsRow : OpenClaim := { program := "ytedaifgbnojojaa", sum := "6a6870f78bd4fe50ceefb3370d95da09d84e64845fbe1acc6d8cd2831c451390", func := "cullet/cullettop.WholeFields", spec := "wholeFields", apart := false }
def WholeFieldsSaid : Prop := wholeFieldsRow.holds Try.pinned (OpenSpec.ofChange wholeFieldsSpec)

/-- ITS FALSE NEIGHBOUR: 'it returns false'. Refute it at one input. -/
def wholeFieldsWrong : ChangeSpec := { name := "wholeFields", fn := fun _ => fun
  | [d1, d2] => { results := [.lit (.bool false)], args := [d1, d2] }
  | _ => none }
def WholeFieldsWrongFalsely : Prop := wholeFieldsRow.holds Try.pinned (OpenSpec.ofChange wholeFieldsWrong)

/- THE SECOND FORM. 'bulk': how many values and letters a reading holds, each counted each time it is reached (what is shared counts as often as it is met; a slice's spare places count too). A statement '..UptoSaid' is the law's where the arguments, and the package variables that the reading takes, are together of bulk at most 1048576: NARROWER than '..Said'. Prove '..Said' where nothing that the law and all that it calls make is longer than what came in: it says more and counts as full. Else prove '..UptoSaid'. A law counts once. -/
mutual
def uptoBulk {H : Type} : DataW H → Nat
  | .lit (.string bytes) => bytes.length + 1
  | .lit _ => 1
  | .nil => 1
  | .ptr d => uptoBulk d + 1
  | .slice elems spare => uptoBulkAll elems + uptoBulkAll spare + 1
  | .agg parts => uptoBulkAll parts + 1
  | .iface _ d => uptoBulk d + 1
  | .map entries => uptoBulkEntries entries + 1
  | .held _ => 1
def uptoBulkAll {H : Type} : List (DataW H) → Nat
  | [] => 0
  | d :: r => uptoBulk d + uptoBulkAll r
def uptoBulkEntries {H : Type} : List (Lit × DataW H) → Nat
  | [] => 0
  | x :: r => uptoBulkEntry x + uptoBulkEntries r
def uptoBulkEntry {H : Type} : Lit × DataW H → Nat
  | (.string bytes, d) => bytes.length + uptoBulk d + 1
  | (_, d) => uptoBulk d + 1
 end
def uptoSmall : (H : Type) → List (DataW H) → Bool := fun _ ds => decide (uptoBulkAll ds ≤ 1048576)
def OpenSpec.upto (s : _root_.Go.ChangeSpec) : _root_.Go.OpenSpec := { _root_.Go.OpenSpec.ofChange s with cond := some uptoSmall }

/-- 'culletlaw03.Gf16Tables', WHERE WHAT IT READS IS OF BULK AT MOST 1048576: true; the input reads as it did. -/
def gf16TablesUptoRow : OpenClaim := { program := "ytedaifgbnojojaa", sum := "6a6870f78bd4fe50ceefb3370d95da09d84e64845fbe1acc6d8cd2831c451390", func := "cullet/culletlaw03.Gf16Tables", spec := "gf16Tables", apart := false, narrowed := true }
def Gf16TablesUptoSaid : Prop := gf16TablesUptoRow.holds Try.pinned (OpenSpec.upto gf16TablesSpec)

/-- 'culletlaw03.Gf16Field', WHERE WHAT IT READS IS OF BULK AT MOST 1048576: true; the input reads as it did. -/
def gf16FieldUptoRow : OpenClaim := { program := "ytedaifgbnojojaa", sum := "6a6870f78bd4fe50ceefb3370d95da09d84e64845fbe1acc6d8cd2831c451390", func := "cullet/culletlaw03.Gf16Field", spec := "gf16Field", apart := false, narrowed := true }
def Gf16FieldUptoSaid : Prop := gf16FieldUptoRow.holds Try.pinned (OpenSpec.upto gf16FieldSpec)

/-- 'culletlaw03.Gf16Cantor', WHERE WHAT IT READS IS OF BULK AT MOST 1048576: true; the input reads as it did. -/
def gf16CantorUptoRow : OpenClaim := { program := "ytedaifgbnojojaa", sum := "6a6870f78bd4fe50ceefb3370d95da09d84e64845fbe1acc6d8cd2831c451390", func := "cullet/culletlaw03.Gf16Cantor", spec := "gf16Cantor", apart := false, narrowed := true }
def Gf16CantorUptoSaid : Prop := gf16CantorUptoRow.holds Try.pinned (OpenSpec.upto gf16CantorSpec)

/-- 'culletlaw03.Gf16Logs', WHERE WHAT IT READS IS OF BULK AT MOST 1048576: true; the input reads as it did. -/
def gf16LogsUptoRow : OpenClaim := { program := "ytedaifgbnojojaa", sum := "6a6870f78bd4fe50ceefb3370d95da09d84e64845fbe1acc6d8cd2831c451390", func := "cullet/culletlaw03.Gf16Logs", spec := "gf16Logs", apart := false, narrowed := true }
def Gf16LogsUptoSaid : Prop := gf16LogsUptoRow.holds Try.pinned (OpenSpec.upto gf16LogsSpec)

/-- 'culletlaw03.Gf16Bases', WHERE WHAT IT READS IS OF BULK AT MOST 1048576: true; the input reads as it did. -/
def gf16BasesUptoRow : OpenClaim := { program := "ytedaifgbnojojaa", sum := "6a6870f78bd4fe50ceefb3370d95da09d84e64845fbe1acc6d8cd2831c451390", func := "cullet/culletlaw03.Gf16Bases", spec := "gf16Bases", apart := false, narrowed := true }
def Gf16BasesUptoSaid : Prop := gf16BasesUptoRow.holds Try.pinned (OpenSpec.upto gf16BasesSpec)

/-- 'culletlaw03.Gf16Subfields', WHERE WHAT IT READS IS OF BULK AT MOST 1048576: true; the input reads as it did. -/
def gf16SubfieldsUptoRow : OpenClaim := { program := "ytedaifgbnojojaa", sum := "6a6870f78bd4fe50ceefb3370d95da09d84e64845fbe1acc6d8cd2831c451390", func := "cullet/culletlaw03.Gf16Subfields", spec := "gf16Subfields", apart := false, narrowed := true }
def Gf16SubfieldsUptoSaid : Prop := gf16SubfieldsUptoRow.holds Try.pinned (OpenSpec.upto gf16SubfieldsSpec)

/-- 'cullettop.WholeBasis', WHERE WHAT IT READS IS OF BULK AT MOST 1048576: true; the input reads as it did. -/
def wholeBasisUptoRow : OpenClaim := { program := "ytedaifgbnojojaa", sum := "6a6870f78bd4fe50ceefb3370d95da09d84e64845fbe1acc6d8cd2831c451390", func := "cullet/cullettop.WholeBasis", spec := "wholeBasis", apart := false, narrowed := true }
def WholeBasisUptoSaid : Prop := wholeBasisUptoRow.holds Try.pinned (OpenSpec.upto wholeBasisSpec)

/-- 'culletlaw03.Gf16Traces', WHERE WHAT IT READS IS OF BULK AT MOST 1048576: true; the input reads as it did. -/
def gf16TracesUptoRow : OpenClaim := { program := "ytedaifgbnojojaa", sum := "6a6870f78bd4fe50ceefb3370d95da09d84e64845fbe1acc6d8cd2831c451390", func := "cullet/culletlaw03.Gf16Traces", spec := "gf16Traces", apart := false, narrowed := true }
def Gf16TracesUptoSaid : Prop := gf16TracesUptoRow.holds Try.pinned (OpenSpec.upto gf16TracesSpec)

/-- 'culletlaw03.Gf16Calls', WHERE WHAT IT READS IS OF BULK AT MOST 1048576: true; the input reads as it did. -/
def gf16CallsUptoRow : OpenClaim := { program := "ytedaifgbnojojaa", sum := "6a6870f78bd4fe50ceefb3370d95da09d84e64845fbe1acc6d8cd2831c451390", func := "cullet/culletlaw03.Gf16Calls", spec := "gf16Calls", apart := false, narrowed := true }
def Gf16CallsUptoSaid : Prop := gf16CallsUptoRow.holds Try.pinned (OpenSpec.upto gf16CallsSpec)

/-- 'cullettop.WholeFields', WHERE WHAT IT READS IS OF BULK AT MOST 1048576: true; the input reads as it did. -/
def wholeFieldsUptoRow : OpenClaim := { program := "ytedaifgbnojojaa", sum := "6a6870f78bd4fe50ceefb3370d95da09d84e64845fbe1acc6d8cd2831c451390", func := "cullet/cullettop.WholeFields", spec := "wholeFields", apart := false, narrowed := true }
def WholeFieldsUptoSaid : Prop := wholeFieldsUptoRow.holds Try.pinned (OpenSpec.upto wholeFieldsSpec)

end Rows
end Go.Proofs.Ytedaifgbnojojaa
