/- A world in which pipes.End and strconv's tables hold what the rows say: the witness (PipesNames). -/
import Derived.Test.YtdgfbamhnmnliaaDoorRows
import Derived.LaidLaws
import Derived.ChangeBears2
import Derived.Stop.LaidErr
namespace Go.Proofs.YtdgfbamhnmnliaaDoor
open Go
def cellsOf : DataW Unit → Array Value
  | .agg l => (l.map fun
    | .lit (.int k n) => Value.int k n
    | _ => .nilIface).toArray
  | _ => #[]
def laidT : List (String × DataW Unit) := [("math/bits.deBruijn32tab", Rows.laid_math_bits_deBruijn32tab), ("math/bits.deBruijn64tab", Rows.laid_math_bits_deBruijn64tab), ("internal/strconv.uint64pow10", Rows.laid_internal_strconv_uint64pow10)]
def laidL : List (String × DataW Unit) := [("math/bits.deBruijn32tab", Rows.laid_math_bits_deBruijn32tab), ("math/bits.deBruijn64tab", Rows.laid_math_bits_deBruijn64tab), ("internal/strconv.uint64pow10", Rows.laid_internal_strconv_uint64pow10), ("cullet/pipes.End", Rows.laid_cullet_pipes_End)]
noncomputable def putLaid (w : World) : List (String × DataW Unit) → World
  | [] => w
  | (n, d) :: l => match Tryd.prog.globalNamed n with
    | some k => putLaid { w with heap := w.heap.modify k fun
        | .cells _ t frozen => .cells (cellsOf d) t frozen
        | o => o } l
    | none => putLaid w l
noncomputable def laidWorld (os : Os) : World :=
  let w0 := putLaid (World.holding Tryd.prog os ⟨#[], #[], []⟩) laidT
  let w1 := w0.alloc (.cells #[.string ⟨#[101, 110, 100]⟩] 132 (0, 0))
  { w1 with heap := w1.heap.modify 0 fun
      | .cells _ t frozen => .cells #[.iface 109 (.pointer (some ⟨w0.heap.size, 0, none⟩))] t frozen
      | o => o }
theorem laidWorld_os (os : Os) : (laidWorld os).os = os := by kernel_rfl
theorem laidWorld_met (os : Os) (args : Array Value) : laidMet Tryd.prog laidL ((laidWorld os).forCall (fun _ _ => 0) ⟨#[], args, []⟩).memory :=
  laidMet_of_run' 8 (by kernel_rfl) (by kernel_rfl)
end Go.Proofs.YtdgfbamhnmnliaaDoor
