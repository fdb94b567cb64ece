/-
  NARROWER THAN 'FOR EVERY INPUT', by the rows' own cells (each row's printed sentence says how): PipesCopies: laid · PipesNilInside: laid · PipesTaken: laid · PipesPieces: laid · PipesNil: laid · PipesNames: laid.
  DERIVED. THE GIVEN ROWS OF THIS SEAT. 6 by the template 'for every input the law returns true; each argument reads behind the call as it read before'; 0 by the template 'total and deterministic' (their statements: YtdgfbamhnmnliaaDoorTotals.lean).
  GIVEN WITH THE SEED: the statements are not yours to turn. If you find one false, say at which input.
  Laid BY PROGRAM, IN A SANDBOX (cutbox-rows.mjs): the forced cells as the released guide's own fill.sh prints them over the translation 5737a9fb2415ee73… (all of the seat's roots in one cut). By AI agents, Wed Nov 11 2026. No macro, syntax, notation, axiom, sorry.
-/
import Derived.Test.YtdgfbamhnmnliaaDoorChecked
import GoSem.Claim
import GoSem.ClaimJoined
import GoSem.ClaimMapViews
import Derived.JoinedTies
import Derived.KernelRfl
namespace Go.Proofs.YtdgfbamhnmnliaaDoor
/- THE CELL 'sum', in the pinned program and in every row, IS THE sha256 OF THE DUMP (.gsa) THAT YtdgfbamhnmnliaaDoorProg.lean LOADS. Nothing in Lean hashes anything: it is a label: what it is worth is what the hold of that sum in a sandbox is worth. -/
noncomputable def Tryd.pinned : Pinned := { name := "ytdgfbamhnmnliaadoor", sum := "5737a9fb2415ee731641b40c28a56d4e566654fc49ad39eb32a466781e2cccdc", checked := Tryd.checked }
namespace Rows
def none {H : Type} : Left H := { results := [], args := [] }

/- WHAT THE LISTED PACKAGE-LEVEL VARIABLES READ AS WHEN THE CALL BEGINS. Each datum BY PROGRAM (the guide's laid-datum.mjs) off the statement by which the dump's own 'gosem.cut.vars' lays the variable. In a bare row this is a premise. The card (YtdgfbamhnmnliaaDoorCards.lean) ties it to the program's text. -/
def laid_cullet_pipes_End {H : Type} : DataW H := .iface "*errors.errorString" (.ptr (.agg [.lit (.string [101, 110, 100])]))
def laid_math_bits_deBruijn32tab {H : Type} : DataW H := .agg [.lit (.int .u8 0), .lit (.int .u8 1), .lit (.int .u8 28), .lit (.int .u8 2), .lit (.int .u8 29), .lit (.int .u8 14), .lit (.int .u8 24), .lit (.int .u8 3), .lit (.int .u8 30), .lit (.int .u8 22), .lit (.int .u8 20), .lit (.int .u8 15), .lit (.int .u8 25), .lit (.int .u8 17), .lit (.int .u8 4), .lit (.int .u8 8), .lit (.int .u8 31), .lit (.int .u8 27), .lit (.int .u8 13), .lit (.int .u8 23), .lit (.int .u8 21), .lit (.int .u8 19), .lit (.int .u8 16), .lit (.int .u8 7), .lit (.int .u8 26), .lit (.int .u8 12), .lit (.int .u8 18), .lit (.int .u8 6), .lit (.int .u8 11), .lit (.int .u8 5), .lit (.int .u8 10), .lit (.int .u8 9)]
def laid_math_bits_deBruijn64tab {H : Type} : DataW H := .agg [.lit (.int .u8 0), .lit (.int .u8 1), .lit (.int .u8 56), .lit (.int .u8 2), .lit (.int .u8 57), .lit (.int .u8 49), .lit (.int .u8 28), .lit (.int .u8 3), .lit (.int .u8 61), .lit (.int .u8 58), .lit (.int .u8 42), .lit (.int .u8 50), .lit (.int .u8 38), .lit (.int .u8 29), .lit (.int .u8 17), .lit (.int .u8 4), .lit (.int .u8 62), .lit (.int .u8 47), .lit (.int .u8 59), .lit (.int .u8 36), .lit (.int .u8 45), .lit (.int .u8 43), .lit (.int .u8 51), .lit (.int .u8 22), .lit (.int .u8 53), .lit (.int .u8 39), .lit (.int .u8 33), .lit (.int .u8 30), .lit (.int .u8 24), .lit (.int .u8 18), .lit (.int .u8 12), .lit (.int .u8 5), .lit (.int .u8 63), .lit (.int .u8 55), .lit (.int .u8 48), .lit (.int .u8 27), .lit (.int .u8 60), .lit (.int .u8 41), .lit (.int .u8 37), .lit (.int .u8 16), .lit (.int .u8 46), .lit (.int .u8 35), .lit (.int .u8 44), .lit (.int .u8 21), .lit (.int .u8 52), .lit (.int .u8 32), .lit (.int .u8 23), .lit (.int .u8 11), .lit (.int .u8 54), .lit (.int .u8 26), .lit (.int .u8 40), .lit (.int .u8 15), .lit (.int .u8 34), .lit (.int .u8 20), .lit (.int .u8 31), .lit (.int .u8 10), .lit (.int .u8 25), .lit (.int .u8 14), .lit (.int .u8 19), .lit (.int .u8 9), .lit (.int .u8 13), .lit (.int .u8 8), .lit (.int .u8 7), .lit (.int .u8 6)]
def laid_internal_strconv_uint64pow10 {H : Type} : DataW H := .agg [.lit (.int .u64 1), .lit (.int .u64 10), .lit (.int .u64 100), .lit (.int .u64 1000), .lit (.int .u64 10000), .lit (.int .u64 100000), .lit (.int .u64 1000000), .lit (.int .u64 10000000), .lit (.int .u64 100000000), .lit (.int .u64 1000000000), .lit (.int .u64 10000000000), .lit (.int .u64 100000000000), .lit (.int .u64 1000000000000), .lit (.int .u64 10000000000000), .lit (.int .u64 100000000000000), .lit (.int .u64 1000000000000000), .lit (.int .u64 10000000000000000), .lit (.int .u64 100000000000000000), .lit (.int .u64 1000000000000000000), .lit (.int .u64 10000000000000000000)]

/-- 'culletlaw22.PipesCopies': WHATEVER THE INPUT: true; the input reads as it did. -/
def pipesCopiesSpec : ChangeSpec := { name := "pipesCopies", fn := fun _ => fun
  | [d1, d2] => { results := [.lit (.bool true)], args := [d1, d2] }
  | _ => none }
def pipesCopiesRow : OpenClaim := { program := "ytdgfbamhnmnliaadoor", sum := "5737a9fb2415ee731641b40c28a56d4e566654fc49ad39eb32a466781e2cccdc", func := "cullet/culletlaw22.PipesCopies", spec := "pipesCopies", inPlace := ["internal/reflectlite.TypeOf"], unfollowed := true, recurses := true, named := ["cullet/pipes.End"], apart := false, laid := [("cullet/pipes.End", laid_cullet_pipes_End)] }
def PipesCopiesSaid : Prop := pipesCopiesRow.holds Tryd.pinned (OpenSpec.ofChange pipesCopiesSpec)

/-- ITS FALSE NEIGHBOUR: 'it returns false'. Refute it at one input. -/
def pipesCopiesWrong : ChangeSpec := { name := "pipesCopies", fn := fun _ => fun
  | [d1, d2] => { results := [.lit (.bool false)], args := [d1, d2] }
  | _ => none }
def PipesCopiesWrongFalsely : Prop := pipesCopiesRow.holds Tryd.pinned (OpenSpec.ofChange pipesCopiesWrong)

/-- 'culletlaw22.PipesNilInside': WHATEVER THE INPUT: true; the input reads as it did. -/
def pipesNilInsideSpec : ChangeSpec := { name := "pipesNilInside", fn := fun _ => fun
  | [d] => { results := [.lit (.bool true)], args := [d] }
  | _ => none }
def pipesNilInsideRow : OpenClaim := { program := "ytdgfbamhnmnliaadoor", sum := "5737a9fb2415ee731641b40c28a56d4e566654fc49ad39eb32a466781e2cccdc", func := "cullet/culletlaw22.PipesNilInside", spec := "pipesNilInside", inPlace := ["internal/reflectlite.TypeOf"], unfollowed := true, recurses := true, named := ["cullet/pipes.End"], apart := false, laid := [("cullet/pipes.End", laid_cullet_pipes_End)] }
def PipesNilInsideSaid : Prop := pipesNilInsideRow.holds Tryd.pinned (OpenSpec.ofChange pipesNilInsideSpec)

/-- ITS FALSE NEIGHBOUR: 'it returns false'. Refute it at one input. -/
def pipesNilInsideWrong : ChangeSpec := { name := "pipesNilInside", fn := fun _ => fun
  | [d] => { results := [.lit (.bool false)], args := [d] }
  | _ => none }
def PipesNilInsideWrongFalsely : Prop := pipesNilInsideRow.holds Tryd.pinned (OpenSpec.ofChange pipesNilInsideWrong)

/-- 'culletlaw22.PipesTaken': WHATEVER THE INPUT: true; the input reads as it did. -/
def pipesTakenSpec : ChangeSpec := { name := "pipesTaken", fn := fun _ => fun
  | [d1, d2, d3] => { results := [.lit (.bool true)], args := [d1, d2, d3] }
  | _ => none }
def pipesTakenRow : OpenClaim := { program := "ytdgfbamhnmnliaadoor", sum := "5737a9fb2415ee731641b40c28a56d4e566654fc49ad39eb32a466781e2cccdc", func := "cullet/culletlaw22.PipesTaken", spec := "pipesTaken", inPlace := ["internal/reflectlite.TypeOf"], unfollowed := true, recurses := true, named := ["cullet/pipes.End"], apart := false, laid := [("cullet/pipes.End", laid_cullet_pipes_End)] }
def PipesTakenSaid : Prop := pipesTakenRow.holds Tryd.pinned (OpenSpec.ofChange pipesTakenSpec)

/-- ITS FALSE NEIGHBOUR: 'it returns false'. Refute it at one input. -/
def pipesTakenWrong : ChangeSpec := { name := "pipesTaken", fn := fun _ => fun
  | [d1, d2, d3] => { results := [.lit (.bool false)], args := [d1, d2, d3] }
  | _ => none }
def PipesTakenWrongFalsely : Prop := pipesTakenRow.holds Tryd.pinned (OpenSpec.ofChange pipesTakenWrong)

/-- 'culletlaw22.PipesPieces': WHATEVER THE INPUT: true; the input reads as it did. -/
def pipesPiecesSpec : ChangeSpec := { name := "pipesPieces", fn := fun _ => fun
  | [d1, d2, d3] => { results := [.lit (.bool true)], args := [d1, d2, d3] }
  | _ => none }
def pipesPiecesRow : OpenClaim := { program := "ytdgfbamhnmnliaadoor", sum := "5737a9fb2415ee731641b40c28a56d4e566654fc49ad39eb32a466781e2cccdc", func := "cullet/culletlaw22.PipesPieces", spec := "pipesPieces", inPlace := ["internal/reflectlite.TypeOf"], unfollowed := true, recurses := true, named := ["cullet/pipes.End"], apart := false, laid := [("cullet/pipes.End", laid_cullet_pipes_End)] }
def PipesPiecesSaid : Prop := pipesPiecesRow.holds Tryd.pinned (OpenSpec.ofChange pipesPiecesSpec)

/-- ITS FALSE NEIGHBOUR: 'it returns false'. Refute it at one input. -/
def pipesPiecesWrong : ChangeSpec := { name := "pipesPieces", fn := fun _ => fun
  | [d1, d2, d3] => { results := [.lit (.bool false)], args := [d1, d2, d3] }
  | _ => none }
def PipesPiecesWrongFalsely : Prop := pipesPiecesRow.holds Tryd.pinned (OpenSpec.ofChange pipesPiecesWrong)

/-- 'culletlaw22.PipesNil': WHATEVER THE INPUT: true; the input reads as it did. -/
def pipesNilSpec : ChangeSpec := { name := "pipesNil", fn := fun _ => fun
  | [d] => { results := [.lit (.bool true)], args := [d] }
  | _ => none }
def pipesNilRow : OpenClaim := { program := "ytdgfbamhnmnliaadoor", sum := "5737a9fb2415ee731641b40c28a56d4e566654fc49ad39eb32a466781e2cccdc", func := "cullet/culletlaw22.PipesNil", spec := "pipesNil", inPlace := ["internal/reflectlite.TypeOf"], unfollowed := true, recurses := true, named := ["cullet/pipes.End"], apart := false, laid := [("cullet/pipes.End", laid_cullet_pipes_End)] }
def PipesNilSaid : Prop := pipesNilRow.holds Tryd.pinned (OpenSpec.ofChange pipesNilSpec)

/-- ITS FALSE NEIGHBOUR: 'it returns false'. Refute it at one input. -/
def pipesNilWrong : ChangeSpec := { name := "pipesNil", fn := fun _ => fun
  | [d] => { results := [.lit (.bool false)], args := [d] }
  | _ => none }
def PipesNilWrongFalsely : Prop := pipesNilRow.holds Tryd.pinned (OpenSpec.ofChange pipesNilWrong)

/-- 'culletlaw22.PipesNames': WHATEVER THE INPUT: true; the input reads as it did. -/
def pipesNamesSpec : ChangeSpec := { name := "pipesNames", fn := fun _ => fun
  | [] => { results := [.lit (.bool true)], args := [] }
  | _ => none }
def pipesNamesRow : OpenClaim := { program := "ytdgfbamhnmnliaadoor", sum := "5737a9fb2415ee731641b40c28a56d4e566654fc49ad39eb32a466781e2cccdc", func := "cullet/culletlaw22.PipesNames", spec := "pipesNames", inPlace := ["internal/reflectlite.TypeOf"], unfollowed := true, recurses := true, named := ["cullet/pipes.End", "internal/strconv.uint64pow10", "math/bits.deBruijn32tab", "math/bits.deBruijn64tab"], apart := false, laid := [("math/bits.deBruijn32tab", laid_math_bits_deBruijn32tab), ("math/bits.deBruijn64tab", laid_math_bits_deBruijn64tab), ("internal/strconv.uint64pow10", laid_internal_strconv_uint64pow10), ("cullet/pipes.End", laid_cullet_pipes_End)] }
def PipesNamesSaid : Prop := pipesNamesRow.holds Tryd.pinned (OpenSpec.ofChange pipesNamesSpec)

/-- ITS FALSE NEIGHBOUR: 'it returns false'. Refute it at one input. -/
def pipesNamesWrong : ChangeSpec := { name := "pipesNames", fn := fun _ => fun
  | [] => { results := [.lit (.bool false)], args := [] }
  | _ => none }
def PipesNamesWrongFalsely : Prop := pipesNamesRow.holds Tryd.pinned (OpenSpec.ofChange pipesNamesWrong)

/- THE SECOND FORM. 'bulk': how many values and letters a reading holds, each counted each time it is reached (what is shared counts as often as it is met; a slice's spare places count too). A statement '..UptoSaid' is the law's where the arguments, and the package variables that the reading takes, are together of bulk at most 1048576: NARROWER than '..Said'. Prove '..Said' where nothing that the law and all that it calls make is longer than what came in: it says more and counts as full. Else prove '..UptoSaid'. A law counts once. -/
mutual
def uptoBulk {H : Type} : DataW H → Nat
  | .lit (.string bytes) => bytes.length + 1
  | .lit _ => 1
  | .nil => 1
  | .ptr d => uptoBulk d + 1
  | .slice elems spare => uptoBulkAll elems + uptoBulkAll spare + 1
  | .agg parts => uptoBulkAll parts + 1
  | .iface _ d => uptoBulk d + 1
  | .map entries => uptoBulkEntries entries + 1
  | .held _ => 1
def uptoBulkAll {H : Type} : List (DataW H) → Nat
  | [] => 0
  | d :: r => uptoBulk d + uptoBulkAll r
def uptoBulkEntries {H : Type} : List (Lit × DataW H) → Nat
  | [] => 0
  | x :: r => uptoBulkEntry x + uptoBulkEntries r
def uptoBulkEntry {H : Type} : Lit × DataW H → Nat
  | (.string bytes, d) => bytes.length + uptoBulk d + 1
  | (_, d) => uptoBulk d + 1
 end
def uptoSmall : (H : Type) → List (DataW H) → Bool := fun _ ds => decide (uptoBulkAll ds ≤ 1048576)
def OpenSpec.upto (s : _root_.Go.ChangeSpec) : _root_.Go.OpenSpec := { _root_.Go.OpenSpec.ofChange s with cond := some uptoSmall }

/-- 'culletlaw22.PipesCopies', WHERE WHAT IT READS IS OF BULK AT MOST 1048576: true; the input reads as it did. -/
def pipesCopiesUptoRow : OpenClaim := { program := "ytdgfbamhnmnliaadoor", sum := "5737a9fb2415ee731641b40c28a56d4e566654fc49ad39eb32a466781e2cccdc", func := "cullet/culletlaw22.PipesCopies", spec := "pipesCopies", inPlace := ["internal/reflectlite.TypeOf"], unfollowed := true, recurses := true, named := ["cullet/pipes.End"], apart := false, laid := [("cullet/pipes.End", laid_cullet_pipes_End)], narrowed := true }
def PipesCopiesUptoSaid : Prop := pipesCopiesUptoRow.holds Tryd.pinned (OpenSpec.upto pipesCopiesSpec)

/-- 'culletlaw22.PipesNilInside', WHERE WHAT IT READS IS OF BULK AT MOST 1048576: true; the input reads as it did. -/
def pipesNilInsideUptoRow : OpenClaim := { program := "ytdgfbamhnmnliaadoor", sum := "5737a9fb2415ee731641b40c28a56d4e566654fc49ad39eb32a466781e2cccdc", func := "cullet/culletlaw22.PipesNilInside", spec := "pipesNilInside", inPlace := ["internal/reflectlite.TypeOf"], unfollowed := true, recurses := true, named := ["cullet/pipes.End"], apart := false, laid := [("cullet/pipes.End", laid_cullet_pipes_End)], narrowed := true }
def PipesNilInsideUptoSaid : Prop := pipesNilInsideUptoRow.holds Tryd.pinned (OpenSpec.upto pipesNilInsideSpec)

/-- 'culletlaw22.PipesTaken', WHERE WHAT IT READS IS OF BULK AT MOST 1048576: true; the input reads as it did. -/
def pipesTakenUptoRow : OpenClaim := { program := "ytdgfbamhnmnliaadoor", sum := "5737a9fb2415ee731641b40c28a56d4e566654fc49ad39eb32a466781e2cccdc", func := "cullet/culletlaw22.PipesTaken", spec := "pipesTaken", inPlace := ["internal/reflectlite.TypeOf"], unfollowed := true, recurses := true, named := ["cullet/pipes.End"], apart := false, laid := [("cullet/pipes.End", laid_cullet_pipes_End)], narrowed := true }
def PipesTakenUptoSaid : Prop := pipesTakenUptoRow.holds Tryd.pinned (OpenSpec.upto pipesTakenSpec)

/-- 'culletlaw22.PipesPieces', WHERE WHAT IT READS IS OF BULK AT MOST 1048576: true; the input reads as it did. -/
def pipesPiecesUptoRow : OpenClaim := { program := "ytdgfbamhnmnliaadoor", sum := "5737a9fb2415ee731641b40c28a56d4e566654fc49ad39eb32a466781e2cccdc", func := "cullet/culletlaw22.PipesPieces", spec := "pipesPieces", inPlace := ["internal/reflectlite.TypeOf"], unfollowed := true, recurses := true, named := ["cullet/pipes.End"], apart := false, laid := [("cullet/pipes.End", laid_cullet_pipes_End)], narrowed := true }
def PipesPiecesUptoSaid : Prop := pipesPiecesUptoRow.holds Tryd.pinned (OpenSpec.upto pipesPiecesSpec)

/-- 'culletlaw22.PipesNil', WHERE WHAT IT READS IS OF BULK AT MOST 1048576: true; the input reads as it did. -/
def pipesNilUptoRow : OpenClaim := { program := "ytdgfbamhnmnliaadoor", sum := "5737a9fb2415ee731641b40c28a56d4e566654fc49ad39eb32a466781e2cccdc", func := "cullet/culletlaw22.PipesNil", spec := "pipesNil", inPlace := ["internal/reflectlite.TypeOf"], unfollowed := true, recurses := true, named := ["cullet/pipes.End"], apart := false, laid := [("cullet/pipes.End", laid_cullet_pipes_End)], narrowed := true }
def PipesNilUptoSaid : Prop := pipesNilUptoRow.holds Tryd.pinned (OpenSpec.upto pipesNilSpec)

/-- 'culletlaw22.PipesNames', WHERE WHAT IT READS IS OF BULK AT MOST 1048576: true; the input reads as it did. -/
def pipesNamesUptoRow : OpenClaim := { program := "ytdgfbamhnmnliaadoor", sum := "5737a9fb2415ee731641b40c28a56d4e566654fc49ad39eb32a466781e2cccdc", func := "cullet/culletlaw22.PipesNames", spec := "pipesNames", inPlace := ["internal/reflectlite.TypeOf"], unfollowed := true, recurses := true, named := ["cullet/pipes.End", "internal/strconv.uint64pow10", "math/bits.deBruijn32tab", "math/bits.deBruijn64tab"], apart := false, laid := [("math/bits.deBruijn32tab", laid_math_bits_deBruijn32tab), ("math/bits.deBruijn64tab", laid_math_bits_deBruijn64tab), ("internal/strconv.uint64pow10", laid_internal_strconv_uint64pow10), ("cullet/pipes.End", laid_cullet_pipes_End)], narrowed := true }
def PipesNamesUptoSaid : Prop := pipesNamesUptoRow.holds Tryd.pinned (OpenSpec.upto pipesNamesSpec)

end Rows
end Go.Proofs.YtdgfbamhnmnliaaDoor
