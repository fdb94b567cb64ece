/- Texts of failures. -/
import Derived.Test.YtdgfbamhnmnliaaDoorPF
import Derived.Test.YtdgfbamhnmnliaaDoorShelf
namespace Go.Proofs.YtdgfbamhnmnliaaDoor.A
open Go.RowKit Go.Deep Go.Proofs.YtdgfbamhnmnliaaDoor.R Go.Proofs.YtdgfbamhnmnliaaDoorW.PrintWords Go.Proofs.YtdgfbamhnmnliaaDoorW.PrintLast Go.Proofs.YtdgfbamhnmnliaaDoorW.PrintMore
set_option linter.unusedVariables false
set_option linter.unusedSimpArgs false
set_option maxRecDepth 100000
theorem text3 (w : World) : Calls Tryd.prog 33 #[.int .i64 3] w fun e w' => e = .returned (.string ⟨#[51]⟩) ∧ Below w.heap.size w w' :=
  culletlaw22_text.calls 5 3 ⟨#[51]⟩ w (by rfl)
theorem error_nil (w : World) : Calls Tryd.prog 29 #[.pointer none] w fun e w' => e = .returned (.string ⟨#[]⟩) ∧ w = w' := by
  go_enter Tryd.func29, Tryd.ntmps29
  go_wp2
  go_ret
  exact ⟨rfl, rfl⟩
theorem dec3 : Lib.decDigits 3 = [51] := by decide +kernel
theorem itoaM7 : Lib.itoa (-7) = [45, 55] := by decide +kernel
theorem grow_below (w : World) (os : Array Obj) : Below w.heap.size w (Sort.grow w os) := ⟨rfl, rfl, rfl, by simp [Sort.grow], fun k hk => by simp [Sort.grow, Array.getElem?_append_left hk]⟩
theorem error3 (b : Nat) (w : World) (hb : w.heap[b]? = some (.cells #[.int .i64 3] 61 (0, 0))) : Calls Tryd.prog 29 #[.pointer (some ⟨b, 0, none⟩)] w fun e w' => e = .returned (.string ⟨#[98, 114, 111, 107, 101, 110, 32, 51]⟩) ∧ w = w' := by
  have k0 := cell_of_row w b 0 _ 61 (0, 0) hb
  simp only [List.getElem?_toArray, List.getElem?_cons_zero] at k0
  have hI : Calls Tryd.prog 34 #[.int .i64 3] w fun e w' => e = .returned (.string ⟨#[51]⟩) ∧ w' = w := by
    have h := Tryd.strconv_Itoa_small 3 (by decide) w
    rw [dec3] at h
    exact h
  go_enter Tryd.func29, Tryd.ntmps29
  go_wp2_with fail
  (with_reducible refine hI.mono ?_)
  rintro e w' ⟨rfl, rfl⟩
  go_wp2_with fail
  go_ret
  exact ⟨by first | rfl | (congr 2), rfl⟩
theorem errorM7 (b : Nat) (w : World) (hb : w.heap[b]? = some (.cells #[.int .i64 (-7)] 61 (0, 0))) (htab : Lib.TabIs Tryd.prog w "internal/strconv.uint64pow10" .u64 Lib.pow10Tab) : Calls Tryd.prog 29 #[.pointer (some ⟨b, 0, none⟩)] w fun e w' => e = .returned (.string ⟨#[98, 114, 111, 107, 101, 110, 32, 45, 55]⟩) ∧ Below w.heap.size w w' := by
  have k0 := cell_of_row w b 0 _ 61 (0, 0) hb
  simp only [List.getElem?_toArray, List.getElem?_cons_zero] at k0
  have hI : Calls Tryd.prog 34 #[.int .i64 (-7)] w fun e w' => e = .returned (.string ⟨#[45, 55]⟩) ∧ ∃ k os, w' = Sort.grow (w.drewN k) os := by
    have h := Tryd.strconv_Itoa (-7) (by decide) (by decide) w htab
    rw [itoaM7] at h
    exact h
  go_enter Tryd.func29, Tryd.ntmps29
  go_wp2_with fail
  (with_reducible refine hI.mono ?_)
  rintro e w' ⟨rfl, k, os, rfl⟩
  go_wp2_with fail
  go_ret
  refine ⟨by first | rfl | (congr 2), ?_⟩
  exact (pw_below_drewN (Below.refl _ _) k).trans (show Below w.heap.size (w.drewN k) _ from grow_below (w.drewN k) os)
theorem is59 (v : Value) (w : World) : (Instr.typeAssert (.iface 59 v) 34 59 true).run Tryd.prog w = .ok (.tuple #[v, .bool true]) w := by kernel_rfl
theorem broken3 (b : Nat) (w : World) (hb : w.heap[b]? = some (.cells #[.int .i64 3] 61 (0, 0))) : Calls Tryd.prog 28 #[.iface 59 (.pointer (some ⟨b, 0, none⟩)), .int .i64 3] w fun e w' => e = .returned (.bool true) ∧ Below w.heap.size w w' := by
  have k0 := cell_of_row w b 0 _ 61 (0, 0) hb
  simp only [List.getElem?_toArray, List.getElem?_cons_zero] at k0
  have hta := is59
  have hq : (([98, 114, 111, 107, 101, 110, 32, 51] : List UInt8) == (({ data := #[98, 114, 111, 107, 101, 110, 32] } : ByteArray) ++ { data := #[51] }).toList) = true := by decide +kernel
  go_enter Tryd.func28, Tryd.ntmps28
  go_wp2_with fail
  (with_reducible refine (error3 b w hb).mono ?_)
  rintro e w' ⟨rfl, rfl⟩
  go_wp2_with fail
  (with_reducible refine (text3 w).mono ?_)
  rintro e w' ⟨rfl, hB⟩
  go_wp2_with fail
  go_ret
  exact ⟨rfl, hB⟩
theorem methE (v : Value) (w : World) : (Go.method 244 109 v "Error").run Tryd.prog w = .ok (78, v) w := by kernel_rfl
theorem error_end (a : Addr) (s : ByteArray) (w : World) (h : w.cell? a = some (.string s)) (hb : a.block < w.heap.size) : Calls Tryd.prog 78 #[.pointer (some a)] w fun e w' => e = .returned (.string s) ∧ w = w' := by
  go_enter Tryd.func78, Tryd.ntmps78
  go_wp2
  go_ret
  exact ⟨rfl, rfl⟩
end Go.Proofs.YtdgfbamhnmnliaaDoor.A
