/- What 'laid' says of End and of strconv's table (PipesNames). -/
import Derived.Test.YtdgfbamhnmnliaaDoorPA
import Derived.Test.YtdgfbamhnmnliaaDoorNamesLaid
import Derived.Stop.LaidErr
import Derived.LaidLaws
import Derived.Lib.LaidTab
import Derived.Lib.ItoaNum
namespace Go.Proofs.YtdgfbamhnmnliaaDoor.A
open Go.RowKit Go.Deep
set_option maxRecDepth 100000
theorem star_err : "*" ++ "errors.errorString" = "*errors.errorString" := by decide
theorem row109 (u : TypeId) (h : Tryd.prog.typeName? 3 u = some "*errors.errorString") : u = 109 :=
  typeName_ptr_named (nm := "errors.errorString") (by rw [star_err]; kernel_rfl) (by kernel_rfl) (by decide) u (by rw [star_err]; exact h)
theorem end_named : Tryd.prog.globalNamed "cullet/pipes.End" = some 0 := by kernel_rfl
theorem endText {W : World} (h : laidMet Tryd.prog laidL W) : ∃ ae : Addr, W.cell? ⟨0, 0, none⟩ = some (.iface 109 (.pointer (some ae))) ∧ W.cell? ae = some (.string ⟨#[101, 110, 100]⟩) := by
  obtain ⟨a, s, hv, hc, ht, -⟩ := laid_sentinel (g := 0) (ti := 34) h.tail.tail.tail end_named (by kernel_rfl) Tryd.underlying34 row109 Tryd.underlying109 Tryd.underlying132 rfl rfl Tryd.underlying9 (by kernel_rfl) (by kernel_rfl)
  have hs : s = ⟨#[101, 110, 100]⟩ := by
    obtain ⟨⟨l⟩⟩ := s
    have : l = [101, 110, 100] := ht
    rw [this]
  exact ⟨a, by simpa using World.var?_cell end_named hv 0, hs ▸ hc⟩
theorem pow_named : Tryd.prog.globalNamed "internal/strconv.uint64pow10" = some 1 := by kernel_rfl
theorem tabData_pow : (Rows.laid_internal_strconv_uint64pow10 : DataW Unit) = Lib.tabData .u64 Lib.pow10Tab := by kernel_rfl
theorem powTab {W : World} (h : laidMet Tryd.prog laidL W) : Lib.TabIs Tryd.prog W "internal/strconv.uint64pow10" .u64 Lib.pow10Tab := by
  have h2 : laidMet Tryd.prog (("internal/strconv.uint64pow10", Lib.tabData .u64 Lib.pow10Tab) :: [("cullet/pipes.End", Rows.laid_cullet_pipes_End)]) W := by
    rw [← tabData_pow]
    exact h.tail.tail
  exact Lib.tabIs_of_head (g := 1) (t := ((Tryd.prog.globals[1]?).map (·.type)).getD 0) (e := 91) (n := 20) pow_named (by kernel_rfl) (by kernel_rfl) (by kernel_rfl) (by kernel_rfl) (by kernel_rfl) h2
end Go.Proofs.YtdgfbamhnmnliaaDoor.A
