/- A world in which pipes.End holds what the rows say: the witness; and what the condition gives a walk. -/
import Derived.Test.YtdgfbamhnmnliaaDoorRows
import Derived.LaidLaws
import Derived.ChangeBears2
import Derived.Stop.LaidErr
namespace Go.Proofs.YtdgfbamhnmnliaaDoor
open Go
def laidL : List (String × DataW Unit) := [("cullet/pipes.End", Rows.laid_cullet_pipes_End)]
noncomputable def laidWorld (os : Os) : World :=
  let w0 := World.holding Tryd.prog os ⟨#[], #[], []⟩
  let w1 := w0.alloc (.cells #[.string ⟨#[101, 110, 100]⟩] 132 (0, 0))
  { w1 with heap := w1.heap.modify 0 fun
      | .cells _ t frozen => .cells #[.iface 109 (.pointer (some ⟨w0.heap.size, 0, none⟩))] t frozen
      | o => o }
theorem laidWorld_os (os : Os) : (laidWorld os).os = os := by kernel_rfl
theorem laidWorld_met (os : Os) (args : Array Value) : laidMet Tryd.prog laidL ((laidWorld os).forCall (fun _ _ => 0) ⟨#[], args, []⟩).memory :=
  laidMet_of_run' 8 (by kernel_rfl) (by kernel_rfl)
end Go.Proofs.YtdgfbamhnmnliaaDoor
