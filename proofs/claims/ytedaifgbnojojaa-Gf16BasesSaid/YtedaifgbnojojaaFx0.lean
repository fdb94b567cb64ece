-- Printed for this claim by mp.py, a program of its prover, through the kit's print. Lean checks it.
import Derived.Test.YtedaifgbnojojaaProg
import Derived.Below
import Derived.Deep.Draws
import Derived.Deep.AppendLies
import Derived.Maps.AppendAt
import Derived.OwnWalk
import Derived.Laws.BytesArg
import Derived.Laws.MakeOwn
import Derived.Laws.OwnMore
import Derived.Deep.OwnRows
import Derived.Tactics
import Derived.Lib.ConvBytes
import Derived.Laws.Slices
import Derived.WalkKit
import Derived.KernelRfl
import Derived.RowKit3
import Derived.Deep.LoopGhost
import Derived.Deep.QuietTactic
import Derived.BigQuiet
import Derived.WideLaws
import Derived.Deep.DeepCutAuto
import Derived.Deep.CutBlock
import Derived.Deep.RegionHeld3
import Derived.Laws.Rows
import Derived.Lib.AppendStr
import Derived.ArgAppend
import Derived.Laws.IdiomCopy
import Derived.OrdersHeld
import Derived.Laws.BitsLemmas
import Derived.RowKit
import Derived.Test.YtedaifgbnojojaaShelf
import Derived.ArgAppend
import Derived.Laws.Tables
import Derived.Test.YtedaifgbnojojaaMake0
import Derived.Test.YtedaifgbnojojaaAx1
import Derived.Test.YtedaifgbnojojaaAx2
import Derived.Test.YtedaifgbnojojaaAx3
import Derived.Test.YtedaifgbnojojaaRootL
import Derived.Test.YtedaifgbnojojaaWWords
import Derived.Test.YtedaifgbnojojaaWLast
import Derived.Test.YtedaifgbnojojaaWTab
import Derived.Test.YtedaifgbnojojaaWFour
import Derived.Test.YtedaifgbnojojaaWQPut
import Derived.Test.YtedaifgbnojojaaWApart
import Derived.Test.YtedaifgbnojojaaWArr
import Derived.Test.YtedaifgbnojojaaWZeros
import Derived.Test.YtedaifgbnojojaaWFoot
import Derived.Test.YtedaifgbnojojaaWKept
import Derived.Test.YtedaifgbnojojaaWShare
import Derived.Test.YtedaifgbnojojaaWN
import Derived.Test.YtedaifgbnojojaaWFootNe
import Derived.Test.YtedaifgbnojojaaWAt
import Derived.Test.YtedaifgbnojojaaWEqStruct
import Derived.Test.YtedaifgbnojojaaWRepsOne
import Derived.Test.YtedaifgbnojojaaWInv
import Derived.Test.YtedaifgbnojojaaWInvWords
import Derived.Test.YtedaifgbnojojaaWGuard
import Derived.Test.YtedaifgbnojojaaWNEv
import Derived.Test.YtedaifgbnojojaaWMore
namespace Go.Proofs.Ytedaifgbnojojaa.F
open Go.RowKit Go.Proofs.YtedaifgbnojojaaW.PrintWords Go.Proofs.YtedaifgbnojojaaW.PrintLast Go.Proofs.YtedaifgbnojojaaW.PrintMore Go.Proofs.Ytedaifgbnojojaa.A
attribute [local go_sem] max2_int min2_int max_two min_two max_three min_three max_four min_four   -- for this text's walks alone
set_option linter.unusedVariables false
set_option linter.unusedSimpArgs false



def errW : Option Int → Value
  | none => .nilIface
  | some c => .iface 0 (.int .i64 c)
theorem errW_none : errW none = .nilIface := rfl
theorem errW_some (c : Int) : errW (some c) = .iface 0 (.int .i64 c) := rfl

theorem tb_wrap8 (x : Int) : IntKind.u64.wrap (x % 256) = x % 256 := by
  have h : IntKind.u64.wrap (x % 256) = (x % 256) % 18446744073709551616 := by simp [IntKind.wrap, IntKind.bits, IntKind.signed]
  rw [h]; omega
/-- What stands in xs behind copy(xs, ys). -/
def cpy {α : Type} (xs ys : List α) : List α := ys.take (min ys.length xs.length) ++ xs.drop (min ys.length xs.length)
theorem info25 : (Try.prog.info? 25).map (fun i => (i.zero, i.size, i.bytes)) = some (some (.int .u16 0), 1, 2) := by kernel_rfl
-- the values' own types

end Go.Proofs.Ytedaifgbnojojaa.F
