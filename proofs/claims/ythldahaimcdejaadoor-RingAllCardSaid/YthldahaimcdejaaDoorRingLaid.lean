/- A world in which the listed package-level tables hold what the rows say: the witness. -/
import Derived.Test.YthldahaimcdejaaDoorRows
import Derived.LaidLaws
import Derived.ChangeBears2

namespace Go.Proofs.YthldahaimcdejaaDoor
open Go
def cellsOf : DataW Unit → Array Value
  | .agg l => (l.map fun
    | .lit (.int k n) => Value.int k n
    | _ => .nilIface).toArray
  | _ => #[]
def laidL : List (String × DataW Unit) := [("math/bits.deBruijn32tab", Rows.laid_math_bits_deBruijn32tab), ("math/bits.deBruijn64tab", Rows.laid_math_bits_deBruijn64tab), ("internal/strconv.uint64pow10", Rows.laid_internal_strconv_uint64pow10)]
noncomputable def putLaid (w : World) : List (String × DataW Unit) → World
  | [] => w
  | (n, d) :: l => match Tryd.prog.globalNamed n with
    | some k => putLaid { w with heap := w.heap.modify k fun
        | .cells _ t frozen => .cells (cellsOf d) t frozen
        | o => o } l
    | none => putLaid w l
noncomputable def laidWorld (os : Os) : World := putLaid (World.holding Tryd.prog os ⟨#[], #[], []⟩) laidL
theorem laidWorld_os (os : Os) : (laidWorld os).os = os := by kernel_rfl
theorem laidWorld_met (os : Os) (args : Array Value) : laidMet Tryd.prog laidL ((laidWorld os).forCall (fun _ _ => 0) ⟨#[], args, []⟩).memory :=
  laidMet_of_run' 8 (by kernel_rfl) (by kernel_rfl)
end Go.Proofs.YthldahaimcdejaaDoor
