/-
  No cell of these rows narrows 'for every input' (looked for: loops, veiled, ifaces, maps, wideKeys, modest, calm, conditions, laid).
  DERIVED. THE GIVEN ROWS OF THIS SEAT. 12 by the template 'for every input the law returns true; each argument reads behind the call as it read before'; 0 by the template 'total and deterministic' (their statements: YtkdoilmfchlpdaaTotals.lean).
  GIVEN WITH THE SEED: the statements are not yours to turn. If you find one false, say at which input.
  Laid BY PROGRAM, IN A SANDBOX (cutbox-rows.mjs): the forced cells as the released guide's own fill.sh prints them over the translation 2660c02c42965f0b… (all of the seat's roots in one cut). By AI agents, Wed Nov 11 2026. No macro, syntax, notation, axiom, sorry.
-/
import Derived.Test.YtkdoilmfchlpdaaChecked
import GoSem.Claim
import GoSem.ClaimJoined
import GoSem.ClaimMapViews
import Derived.JoinedTies
import Derived.KernelRfl
namespace Go.Proofs.Ytkdoilmfchlpdaa
/- THE CELL 'sum', in the pinned program and in every row, IS THE sha256 OF THE DUMP (.gsa) THAT YtkdoilmfchlpdaaProg.lean LOADS. Nothing in Lean hashes anything: it is a label: what it is worth is what the hold of that sum in a sandbox is worth. -/
noncomputable def Try.pinned : Pinned := { name := "ytkdoilmfchlpdaa", sum := "2660c02c42965f0bf75a1fb35745dd51386da70e3d2447cd37a1fb83f8e85ae2", checked := Try.checked }
namespace Rows
def none {H : Type} : Left H := { results := [], args := [] }

/-- 'culletlaw11.GenerValues': WHATEVER THE INPUT: true; the input reads as it did. -/
def generValuesSpec : ChangeSpec := { name := "generValues", fn := fun _ => fun
  | [d1, d2] => { results := [.lit (.bool true)], args := [d1, d2] }
  | _ => none }
def generValuesRow : OpenClaim := { program := "ytkdoilmfchlpdaa", sum := "2660c02c42965f0bf75a1fb35745dd51386da70e3d2447cd37a1fb83f8e85ae2", func := "cullet/culletlaw11.GenerValues", spec := "generValues", unfollowed := true, recurses := true, apart := false }
def GenerValuesSaid : Prop := generValuesRow.holds Try.pinned (OpenSpec.ofChange generValuesSpec)

/-- ITS FALSE NEIGHBOUR: 'it returns false'. Refute it at one input. -/
def generValuesWrong : ChangeSpec := { name := "generValues", fn := fun _ => fun
  | [d1, d2] => { results := [.lit (.bool false)], args := [d1, d2] }
  | _ => none }
def GenerValuesWrongFalsely : Prop := generValuesRow.holds Try.pinned (OpenSpec.ofChange generValuesWrong)

/-- 'culletlaw11.GenerCauchys': WHATEVER THE INPUT: true; the input reads as it did. -/
def generCauchysSpec : ChangeSpec := { name := "generCauchys", fn := fun _ => fun
  | [d1, d2] => { results := [.lit (.bool true)], args := [d1, d2] }
  | _ => none }
def generCauchysRow : OpenClaim := { program := "ytkdoilmfchlpdaa", sum := "2660c02c42965f0bf75a1fb35745dd51386da70e3d2447cd37a1fb83f8e85ae2", func := "cullet/culletlaw11.GenerCauchys", spec := "generCauchys", unfollowed := true, recurses := true, apart := false }
def GenerCauchysSaid : Prop := generCauchysRow.holds Try.pinned (OpenSpec.ofChange generCauchysSpec)

/-- ITS FALSE NEIGHBOUR: 'it returns false'. Refute it at one input. -/
def generCauchysWrong : ChangeSpec := { name := "generCauchys", fn := fun _ => fun
  | [d1, d2] => { results := [.lit (.bool false)], args := [d1, d2] }
  | _ => none }
def GenerCauchysWrongFalsely : Prop := generCauchysRow.holds Try.pinned (OpenSpec.ofChange generCauchysWrong)

/-- 'culletlaw11.GenerAny': WHATEVER THE INPUT: true; the input reads as it did. -/
def generAnySpec : ChangeSpec := { name := "generAny", fn := fun _ => fun
  | [d1, d2, d3, d4] => { results := [.lit (.bool true)], args := [d1, d2, d3, d4] }
  | _ => none }
def generAnyRow : OpenClaim := { program := "ytkdoilmfchlpdaa", sum := "2660c02c42965f0bf75a1fb35745dd51386da70e3d2447cd37a1fb83f8e85ae2", func := "cullet/culletlaw11.GenerAny", spec := "generAny", unfollowed := true, recurses := true, apart := false }
def GenerAnySaid : Prop := generAnyRow.holds Try.pinned (OpenSpec.ofChange generAnySpec)

/-- ITS FALSE NEIGHBOUR: 'it returns false'. Refute it at one input. -/
def generAnyWrong : ChangeSpec := { name := "generAny", fn := fun _ => fun
  | [d1, d2, d3, d4] => { results := [.lit (.bool false)], args := [d1, d2, d3, d4] }
  | _ => none }
def GenerAnyWrongFalsely : Prop := generAnyRow.holds Try.pinned (OpenSpec.ofChange generAnyWrong)

/-- 'culletlaw11.GenerMore': WHATEVER THE INPUT: true; the input reads as it did. -/
def generMoreSpec : ChangeSpec := { name := "generMore", fn := fun _ => fun
  | [d1, d2, d3, d4] => { results := [.lit (.bool true)], args := [d1, d2, d3, d4] }
  | _ => none }
def generMoreRow : OpenClaim := { program := "ytkdoilmfchlpdaa", sum := "2660c02c42965f0bf75a1fb35745dd51386da70e3d2447cd37a1fb83f8e85ae2", func := "cullet/culletlaw11.GenerMore", spec := "generMore", unfollowed := true, recurses := true, apart := false }
def GenerMoreSaid : Prop := generMoreRow.holds Try.pinned (OpenSpec.ofChange generMoreSpec)

/-- ITS FALSE NEIGHBOUR: 'it returns false'. Refute it at one input. -/
def generMoreWrong : ChangeSpec := { name := "generMore", fn := fun _ => fun
  | [d1, d2, d3, d4] => { results := [.lit (.bool false)], args := [d1, d2, d3, d4] }
  | _ => none }
def GenerMoreWrongFalsely : Prop := generMoreRow.holds Try.pinned (OpenSpec.ofChange generMoreWrong)

/-- 'culletlaw11.GenerLong': WHATEVER THE INPUT: true; the input reads as it did. -/
def generLongSpec : ChangeSpec := { name := "generLong", fn := fun _ => fun
  | [d1, d2, d3] => { results := [.lit (.bool true)], args := [d1, d2, d3] }
  | _ => none }
def generLongRow : OpenClaim := { program := "ytkdoilmfchlpdaa", sum := "2660c02c42965f0bf75a1fb35745dd51386da70e3d2447cd37a1fb83f8e85ae2", func := "cullet/culletlaw11.GenerLong", spec := "generLong", unfollowed := true, recurses := true, apart := false }
def GenerLongSaid : Prop := generLongRow.holds Try.pinned (OpenSpec.ofChange generLongSpec)

/-- ITS FALSE NEIGHBOUR: 'it returns false'. Refute it at one input. -/
def generLongWrong : ChangeSpec := { name := "generLong", fn := fun _ => fun
  | [d1, d2, d3] => { results := [.lit (.bool false)], args := [d1, d2, d3] }
  | _ => none }
def GenerLongWrongFalsely : Prop := generLongRow.holds Try.pinned (OpenSpec.ofChange generLongWrong)

/-- 'culletlaw11.GenerPrefix': WHATEVER THE INPUT: true; the input reads as it did. -/
def generPrefixSpec : ChangeSpec := { name := "generPrefix", fn := fun _ => fun
  | [d1, d2, d3, d4] => { results := [.lit (.bool true)], args := [d1, d2, d3, d4] }
  | _ => none }
def generPrefixRow : OpenClaim := { program := "ytkdoilmfchlpdaa", sum := "2660c02c42965f0bf75a1fb35745dd51386da70e3d2447cd37a1fb83f8e85ae2", func := "cullet/culletlaw11.GenerPrefix", spec := "generPrefix", unfollowed := true, recurses := true, apart := false }
def GenerPrefixSaid : Prop := generPrefixRow.holds Try.pinned (OpenSpec.ofChange generPrefixSpec)

/-- ITS FALSE NEIGHBOUR: 'it returns false'. Refute it at one input. -/
def generPrefixWrong : ChangeSpec := { name := "generPrefix", fn := fun _ => fun
  | [d1, d2, d3, d4] => { results := [.lit (.bool false)], args := [d1, d2, d3, d4] }
  | _ => none }
def GenerPrefixWrongFalsely : Prop := generPrefixRow.holds Try.pinned (OpenSpec.ofChange generPrefixWrong)

/-- 'culletlaw11.GenerSystematics': WHATEVER THE INPUT: true; the input reads as it did. -/
def generSystematicsSpec : ChangeSpec := { name := "generSystematics", fn := fun _ => fun
  | [d] => { results := [.lit (.bool true)], args := [d] }
  | _ => none }
def generSystematicsRow : OpenClaim := { program := "ytkdoilmfchlpdaa", sum := "2660c02c42965f0bf75a1fb35745dd51386da70e3d2447cd37a1fb83f8e85ae2", func := "cullet/culletlaw11.GenerSystematics", spec := "generSystematics", unfollowed := true, recurses := true, apart := false }
def GenerSystematicsSaid : Prop := generSystematicsRow.holds Try.pinned (OpenSpec.ofChange generSystematicsSpec)

/-- ITS FALSE NEIGHBOUR: 'it returns false'. Refute it at one input. -/
def generSystematicsWrong : ChangeSpec := { name := "generSystematics", fn := fun _ => fun
  | [d] => { results := [.lit (.bool false)], args := [d] }
  | _ => none }
def GenerSystematicsWrongFalsely : Prop := generSystematicsRow.holds Try.pinned (OpenSpec.ofChange generSystematicsWrong)

/-- 'culletlaw11.GenerWords': WHATEVER THE INPUT: true; the input reads as it did. -/
def generWordsSpec : ChangeSpec := { name := "generWords", fn := fun _ => fun
  | [d] => { results := [.lit (.bool true)], args := [d] }
  | _ => none }
def generWordsRow : OpenClaim := { program := "ytkdoilmfchlpdaa", sum := "2660c02c42965f0bf75a1fb35745dd51386da70e3d2447cd37a1fb83f8e85ae2", func := "cullet/culletlaw11.GenerWords", spec := "generWords", unfollowed := true, recurses := true, apart := false }
def GenerWordsSaid : Prop := generWordsRow.holds Try.pinned (OpenSpec.ofChange generWordsSpec)

/-- ITS FALSE NEIGHBOUR: 'it returns false'. Refute it at one input. -/
def generWordsWrong : ChangeSpec := { name := "generWords", fn := fun _ => fun
  | [d] => { results := [.lit (.bool false)], args := [d] }
  | _ => none }
def GenerWordsWrongFalsely : Prop := generWordsRow.holds Try.pinned (OpenSpec.ofChange generWordsWrong)

/-- 'culletlaw11.GenerDecoders': WHATEVER THE INPUT: true; the input reads as it did. -/
def generDecodersSpec : ChangeSpec := { name := "generDecoders", fn := fun _ => fun
  | [d] => { results := [.lit (.bool true)], args := [d] }
  | _ => none }
def generDecodersRow : OpenClaim := { program := "ytkdoilmfchlpdaa", sum := "2660c02c42965f0bf75a1fb35745dd51386da70e3d2447cd37a1fb83f8e85ae2", func := "cullet/culletlaw11.GenerDecoders", spec := "generDecoders", unfollowed := true, recurses := true, apart := false }
def GenerDecodersSaid : Prop := generDecodersRow.holds Try.pinned (OpenSpec.ofChange generDecodersSpec)

/-- ITS FALSE NEIGHBOUR: 'it returns false'. Refute it at one input. -/
def generDecodersWrong : ChangeSpec := { name := "generDecoders", fn := fun _ => fun
  | [d] => { results := [.lit (.bool false)], args := [d] }
  | _ => none }
def GenerDecodersWrongFalsely : Prop := generDecodersRow.holds Try.pinned (OpenSpec.ofChange generDecodersWrong)

/-- 'culletlaw11.GenerAlls': WHATEVER THE INPUT: true; the input reads as it did. -/
def generAllsSpec : ChangeSpec := { name := "generAlls", fn := fun _ => fun
  | [d] => { results := [.lit (.bool true)], args := [d] }
  | _ => none }
def generAllsRow : OpenClaim := { program := "ytkdoilmfchlpdaa", sum := "2660c02c42965f0bf75a1fb35745dd51386da70e3d2447cd37a1fb83f8e85ae2", func := "cullet/culletlaw11.GenerAlls", spec := "generAlls", unfollowed := true, recurses := true, apart := false }
def GenerAllsSaid : Prop := generAllsRow.holds Try.pinned (OpenSpec.ofChange generAllsSpec)

/-- ITS FALSE NEIGHBOUR: 'it returns false'. Refute it at one input. -/
def generAllsWrong : ChangeSpec := { name := "generAlls", fn := fun _ => fun
  | [d] => { results := [.lit (.bool false)], args := [d] }
  | _ => none }
def GenerAllsWrongFalsely : Prop := generAllsRow.holds Try.pinned (OpenSpec.ofChange generAllsWrong)

/-- 'culletlaw11.GenerSquare': WHATEVER THE INPUT: true; the input reads as it did. -/
def generSquareSpec : ChangeSpec := { name := "generSquare", fn := fun _ => fun
  | [d] => { results := [.lit (.bool true)], args := [d] }
  | _ => none }
def generSquareRow : OpenClaim := { program := "ytkdoilmfchlpdaa", sum := "2660c02c42965f0bf75a1fb35745dd51386da70e3d2447cd37a1fb83f8e85ae2", func := "cullet/culletlaw11.GenerSquare", spec := "generSquare", unfollowed := true, recurses := true, apart := false }
def GenerSquareSaid : Prop := generSquareRow.holds Try.pinned (OpenSpec.ofChange generSquareSpec)

/-- ITS FALSE NEIGHBOUR: 'it returns false'. Refute it at one input. -/
def generSquareWrong : ChangeSpec := { name := "generSquare", fn := fun _ => fun
  | [d] => { results := [.lit (.bool false)], args := [d] }
  | _ => none }
def GenerSquareWrongFalsely : Prop := generSquareRow.holds Try.pinned (OpenSpec.ofChange generSquareWrong)

/-- 'culletlaw11.GenerLists': WHATEVER THE INPUT: true; the input reads as it did. -/
def generListsSpec : ChangeSpec := { name := "generLists", fn := fun _ => fun
  | [d1, d2, d3, d4] => { results := [.lit (.bool true)], args := [d1, d2, d3, d4] }
  | _ => none }
def generListsRow : OpenClaim := { program := "ytkdoilmfchlpdaa", sum := "2660c02c42965f0bf75a1fb35745dd51386da70e3d2447cd37a1fb83f8e85ae2", func := "cullet/culletlaw11.GenerLists", spec := "generLists", unfollowed := true, recurses := true, apart := false }
def GenerListsSaid : Prop := generListsRow.holds Try.pinned (OpenSpec.ofChange generListsSpec)

/-- ITS FALSE NEIGHBOUR: 'it returns false'. Refute it at one input. -/
def generListsWrong : ChangeSpec := { name := "generLists", fn := fun _ => fun
  | [d1, d2, d3, d4] => { results := [.lit (.bool false)], args := [d1, d2, d3, d4] }
  | _ => none }
def GenerListsWrongFalsely : Prop := generListsRow.holds Try.pinned (OpenSpec.ofChange generListsWrong)

/- THE SECOND FORM. 'bulk': how many values and letters a reading holds, each counted each time it is reached (what is shared counts as often as it is met; a slice's spare places count too). A statement '..UptoSaid' is the law's where the arguments, and the package variables that the reading takes, are together of bulk at most 1048576: NARROWER than '..Said'. Prove '..Said' where nothing that the law and all that it calls make is longer than what came in: it says more and counts as full. Else prove '..UptoSaid'. A law counts once. -/
mutual
def uptoBulk {H : Type} : DataW H → Nat
  | .lit (.string bytes) => bytes.length + 1
  | .lit _ => 1
  | .nil => 1
  | .ptr d => uptoBulk d + 1
  | .slice elems spare => uptoBulkAll elems + uptoBulkAll spare + 1
  | .agg parts => uptoBulkAll parts + 1
  | .iface _ d => uptoBulk d + 1
  | .map entries => uptoBulkEntries entries + 1
  | .held _ => 1
def uptoBulkAll {H : Type} : List (DataW H) → Nat
  | [] => 0
  | d :: r => uptoBulk d + uptoBulkAll r
def uptoBulkEntries {H : Type} : List (Lit × DataW H) → Nat
  | [] => 0
  | x :: r => uptoBulkEntry x + uptoBulkEntries r
def uptoBulkEntry {H : Type} : Lit × DataW H → Nat
  | (.string bytes, d) => bytes.length + uptoBulk d + 1
  | (_, d) => uptoBulk d + 1
 end
def uptoSmall : (H : Type) → List (DataW H) → Bool := fun _ ds => decide (uptoBulkAll ds ≤ 1048576)
def OpenSpec.upto (s : _root_.Go.ChangeSpec) : _root_.Go.OpenSpec := { _root_.Go.OpenSpec.ofChange s with cond := some uptoSmall }

/-- 'culletlaw11.GenerValues', WHERE WHAT IT READS IS OF BULK AT MOST 1048576: true; the input reads as it did. -/
def generValuesUptoRow : OpenClaim := { program := "ytkdoilmfchlpdaa", sum := "2660c02c42965f0bf75a1fb35745dd51386da70e3d2447cd37a1fb83f8e85ae2", func := "cullet/culletlaw11.GenerValues", spec := "generValues", unfollowed := true, recurses := true, apart := false, narrowed := true }
def GenerValuesUptoSaid : Prop := generValuesUptoRow.holds Try.pinned (OpenSpec.upto generValuesSpec)

/-- 'culletlaw11.GenerCauchys', WHERE WHAT IT READS IS OF BULK AT MOST 1048576: true; the input reads as it did. -/
def generCauchysUptoRow : OpenClaim := { program := "ytkdoilmfchlpdaa", sum := "2660c02c42965f0bf75a1fb35745dd51386da70e3d2447cd37a1fb83f8e85ae2", func := "cullet/culletlaw11.GenerCauchys", spec := "generCauchys", unfollowed := true, recurses := true, apart := false, narrowed := true }
def GenerCauchysUptoSaid : Prop := generCauchysUptoRow.holds Try.pinned (OpenSpec.upto generCauchysSpec)

/-- 'culletlaw11.GenerAny', WHERE WHAT IT READS IS OF BULK AT MOST 1048576: true; the input reads as it did. -/
def generAnyUptoRow : OpenClaim := { program := "ytkdoilmfchlpdaa", sum := "2660c02c42965f0bf75a1fb35745dd51386da70e3d2447cd37a1fb83f8e85ae2", func := "cullet/culletlaw11.GenerAny", spec := "generAny", unfollowed := true, recurses := true, apart := false, narrowed := true }
def GenerAnyUptoSaid : Prop := generAnyUptoRow.holds Try.pinned (OpenSpec.upto generAnySpec)

/-- 'culletlaw11.GenerMore', WHERE WHAT IT READS IS OF BULK AT MOST 1048576: true; the input reads as it did. -/
def generMoreUptoRow : OpenClaim := { program := "ytkdoilmfchlpdaa", sum := "2660c02c42965f0bf75a1fb35745dd51386da70e3d2447cd37a1fb83f8e85ae2", func := "cullet/culletlaw11.GenerMore", spec := "generMore", unfollowed := true, recurses := true, apart := false, narrowed := true }
def GenerMoreUptoSaid : Prop := generMoreUptoRow.holds Try.pinned (OpenSpec.upto generMoreSpec)

/-- 'culletlaw11.GenerLong', WHERE WHAT IT READS IS OF BULK AT MOST 1048576: true; the input reads as it did. -/
def generLongUptoRow : OpenClaim := { program := "ytkdoilmfchlpdaa", sum := "2660c02c42965f0bf75a1fb35745dd51386da70e3d2447cd37a1fb83f8e85ae2", func := "cullet/culletlaw11.GenerLong", spec := "generLong", unfollowed := true, recurses := true, apart := false, narrowed := true }
def GenerLongUptoSaid : Prop := generLongUptoRow.holds Try.pinned (OpenSpec.upto generLongSpec)

/-- 'culletlaw11.GenerPrefix', WHERE WHAT IT READS IS OF BULK AT MOST 1048576: true; the input reads as it did. -/
def generPrefixUptoRow : OpenClaim := { program := "ytkdoilmfchlpdaa", sum := "2660c02c42965f0bf75a1fb35745dd51386da70e3d2447cd37a1fb83f8e85ae2", func := "cullet/culletlaw11.GenerPrefix", spec := "generPrefix", unfollowed := true, recurses := true, apart := false, narrowed := true }
def GenerPrefixUptoSaid : Prop := generPrefixUptoRow.holds Try.pinned (OpenSpec.upto generPrefixSpec)

/-- 'culletlaw11.GenerSystematics', WHERE WHAT IT READS IS OF BULK AT MOST 1048576: true; the input reads as it did. -/
def generSystematicsUptoRow : OpenClaim := { program := "ytkdoilmfchlpdaa", sum := "2660c02c42965f0bf75a1fb35745dd51386da70e3d2447cd37a1fb83f8e85ae2", func := "cullet/culletlaw11.GenerSystematics", spec := "generSystematics", unfollowed := true, recurses := true, apart := false, narrowed := true }
def GenerSystematicsUptoSaid : Prop := generSystematicsUptoRow.holds Try.pinned (OpenSpec.upto generSystematicsSpec)

/-- 'culletlaw11.GenerWords', WHERE WHAT IT READS IS OF BULK AT MOST 1048576: true; the input reads as it did. -/
def generWordsUptoRow : OpenClaim := { program := "ytkdoilmfchlpdaa", sum := "2660c02c42965f0bf75a1fb35745dd51386da70e3d2447cd37a1fb83f8e85ae2", func := "cullet/culletlaw11.GenerWords", spec := "generWords", unfollowed := true, recurses := true, apart := false, narrowed := true }
def GenerWordsUptoSaid : Prop := generWordsUptoRow.holds Try.pinned (OpenSpec.upto generWordsSpec)

/-- 'culletlaw11.GenerDecoders', WHERE WHAT IT READS IS OF BULK AT MOST 1048576: true; the input reads as it did. -/
def generDecodersUptoRow : OpenClaim := { program := "ytkdoilmfchlpdaa", sum := "2660c02c42965f0bf75a1fb35745dd51386da70e3d2447cd37a1fb83f8e85ae2", func := "cullet/culletlaw11.GenerDecoders", spec := "generDecoders", unfollowed := true, recurses := true, apart := false, narrowed := true }
def GenerDecodersUptoSaid : Prop := generDecodersUptoRow.holds Try.pinned (OpenSpec.upto generDecodersSpec)

/-- 'culletlaw11.GenerAlls', WHERE WHAT IT READS IS OF BULK AT MOST 1048576: true; the input reads as it did. -/
def generAllsUptoRow : OpenClaim := { program := "ytkdoilmfchlpdaa", sum := "2660c02c42965f0bf75a1fb35745dd51386da70e3d2447cd37a1fb83f8e85ae2", func := "cullet/culletlaw11.GenerAlls", spec := "generAlls", unfollowed := true, recurses := true, apart := false, narrowed := true }
def GenerAllsUptoSaid : Prop := generAllsUptoRow.holds Try.pinned (OpenSpec.upto generAllsSpec)

/-- 'culletlaw11.GenerSquare', WHERE WHAT IT READS IS OF BULK AT MOST 1048576: true; the input reads as it did. -/
def generSquareUptoRow : OpenClaim := { program := "ytkdoilmfchlpdaa", sum := "2660c02c42965f0bf75a1fb35745dd51386da70e3d2447cd37a1fb83f8e85ae2", func := "cullet/culletlaw11.GenerSquare", spec := "generSquare", unfollowed := true, recurses := true, apart := false, narrowed := true }
def GenerSquareUptoSaid : Prop := generSquareUptoRow.holds Try.pinned (OpenSpec.upto generSquareSpec)

/-- 'culletlaw11.GenerLists', WHERE WHAT IT READS IS OF BULK AT MOST 1048576: true; the input reads as it did. -/
def generListsUptoRow : OpenClaim := { program := "ytkdoilmfchlpdaa", sum := "2660c02c42965f0bf75a1fb35745dd51386da70e3d2447cd37a1fb83f8e85ae2", func := "cullet/culletlaw11.GenerLists", spec := "generLists", unfollowed := true, recurses := true, apart := false, narrowed := true }
def GenerListsUptoSaid : Prop := generListsUptoRow.holds Try.pinned (OpenSpec.upto generListsSpec)

end Rows
end Go.Proofs.Ytkdoilmfchlpdaa
