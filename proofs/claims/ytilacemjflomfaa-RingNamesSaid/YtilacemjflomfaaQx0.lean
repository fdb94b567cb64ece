-- Printed for this claim by mp.py, a program of its prover, through the kit's print. Lean checks it.
import Derived.Test.YtilacemjflomfaaProg
import Derived.Below
import Derived.Deep.Draws
import Derived.Deep.AppendLies
import Derived.Maps.AppendAt
import Derived.OwnWalk
import Derived.Laws.BytesArg
import Derived.Laws.MakeOwn
import Derived.Laws.OwnMore
import Derived.Deep.OwnRows
import Derived.Tactics
import Derived.Lib.ConvBytes
import Derived.Laws.Slices
import Derived.WalkKit
import Derived.KernelRfl
import Derived.RowKit3
import Derived.Deep.LoopGhost
import Derived.Deep.QuietTactic
import Derived.BigQuiet
import Derived.WideLaws
import Derived.Deep.DeepCutAuto
import Derived.Deep.CutBlock
import Derived.Deep.RegionHeld3
import Derived.Laws.Rows
import Derived.Lib.AppendStr
import Derived.ArgAppend
import Derived.Laws.IdiomCopy
import Derived.OrdersHeld
import Derived.Laws.BitsLemmas
import Derived.RowKit
import Derived.Test.YtilacemjflomfaaShelf
import Derived.Test.YtilacemjflomfaaWWords
import Derived.Test.YtilacemjflomfaaWLast
import Derived.Test.YtilacemjflomfaaWTab
import Derived.Test.YtilacemjflomfaaWFour
import Derived.Test.YtilacemjflomfaaWQPut
import Derived.Test.YtilacemjflomfaaWApart
import Derived.Test.YtilacemjflomfaaWArr
import Derived.Test.YtilacemjflomfaaWZeros
import Derived.Test.YtilacemjflomfaaWFoot
import Derived.Test.YtilacemjflomfaaWKept
import Derived.Test.YtilacemjflomfaaWShare
import Derived.Test.YtilacemjflomfaaWN
import Derived.Test.YtilacemjflomfaaWFootNe
import Derived.Test.YtilacemjflomfaaWAt
import Derived.Test.YtilacemjflomfaaWEqStruct
import Derived.Test.YtilacemjflomfaaWRepsOne
import Derived.Test.YtilacemjflomfaaWInv
import Derived.Test.YtilacemjflomfaaWInvWords
import Derived.Test.YtilacemjflomfaaWGuard
import Derived.Test.YtilacemjflomfaaWNEv
import Derived.Test.YtilacemjflomfaaWMore
namespace Go.Proofs.Ytilacemjflomfaa.Q
open Go.RowKit Go.Proofs.YtilacemjflomfaaW.PrintWords Go.Proofs.YtilacemjflomfaaW.PrintLast Go.Proofs.YtilacemjflomfaaW.PrintMore
attribute [local go_sem] max2_int min2_int max_two min_two max_three min_three max_four min_four   -- for this text's walks alone
set_option linter.unusedVariables false
set_option linter.unusedSimpArgs false



def errW : Option Int → Value
  | none => .nilIface
  | some c => .iface 0 (.int .i64 c)
theorem errW_none : errW none = .nilIface := rfl
theorem errW_some (c : Int) : errW (some c) = .iface 0 (.int .i64 c) := rfl

-- the values' own types

end Go.Proofs.Ytilacemjflomfaa.Q
