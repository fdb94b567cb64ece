/- Regions that draw their order: reads, and calls that leave a world of a class, in whatever order. -/
import Derived.Test.YthldahaimcdejaaDoorZ1
import Derived.Deep.Quiet
import Derived.Deep.QuietTactic

namespace Go.Proofs.YthldahaimcdejaaDoor.R
open Go Go.RowKit Go.Deep Go.Proofs.YthldahaimcdejaaDoorW.PrintWords Go.Proofs.YthldahaimcdejaaDoorW.PrintLast Go.Proofs.YthldahaimcdejaaDoorW.PrintMore
variable {P : Program} {ops : Array Oper} {C : World → Prop}
theorem wp_region_class {id : Nat} {Q : Exit → Act → World → Prop} {a : Act} {w : World} {l : List Oper} (hm : P.follows .mixedOrders = true) (hB : Region.lexB .any l.toArray = true) (hC : C { w with drawn := w.drawn + 1 })
    (h : wpQuiet P l.toArray C (fun a' => ∀ w', C w' → Q .normal a' w') l a) : (Code.region id l.toArray true).wp P Q a w :=
  wp_region_quiet hm hB hC (by simpa using h)
/-- An operation that yields one value in every world of the class. -/
theorem class_value {Q : Act → Prop} {a : Act} {o : Oper} {rest : List Oper} (v : Value) (hgd : o.guard = none) (hrun : ∀ w, C w → (execOp a.eval o).run P w = .ok (.value v) w) (h : wpQuiet P ops C Q rest (a.put o.dst v)) : wpQuiet P ops C Q (o :: rest) a := by
  refine wpQuiet_step (fun K hK => ?_)
  rw [if_pos (by simp [Region.wanted, hgd])]
  refine ⟨v, fun w hw => ?_, hK _ h⟩
  unfold Oper.quietAt
  rw [hrun w hw]
  exact ⟨rfl, rfl⟩
/-- A call whose contract hands back one value and leaves a world of the class. -/
theorem class_call {Q : Act → Prop} {a : Act} {o : Oper} {rest : List Oper} (v : Value) (hgd : o.guard = none) {f : FuncId} {fn : Func} {as : Array Operand} {ts : Array TypeId} (hf : P.funcs[f]? = some fn) (hname : (fn.name == "runtime.NumGoroutine") = false) (hb : fn.body.isSome = true) (args : Array Value)
    (hop : o.op = .call { callee := .value (.func f), args := as, argTypes := ts }) (hargs : as.map a.eval = args)
    (hcall : ∀ w, C w → Calls P f args w (fun e w'' => e = .returned v ∧ C w'')) (h : wpQuiet P ops C Q rest (a.put o.dst v)) : wpQuiet P ops C Q (o :: rest) a := by
  refine wpQuiet_step (fun K hK => ?_)
  rw [if_pos (by simp [Region.wanted, hgd])]
  refine ⟨v, fun w hw => ?_, hK _ h⟩
  have he := enters_ hf hname hb args w
  have hrun : (execOp a.eval o).run P w = .ok (.enter f args) w := by
    unfold execOp
    simp [hop, resolve, Deferred.ofValue, invoke, Act.eval, hargs, he]
  unfold Oper.quietAt
  rw [hrun]
  exact ⟨rfl, hcall w hw⟩
end Go.Proofs.YthldahaimcdejaaDoor.R
