/- The number of 64 coefficients, walked by hand. -/
import Derived.Test.YthldahaimcdejaaDoorRB

namespace Go.Proofs.YthldahaimcdejaaDoor.A
open Go.RowKit Go.Deep Go.Proofs.YthldahaimcdejaaDoorW.PrintWords Go.Proofs.YthldahaimcdejaaDoorW.PrintLast Go.Proofs.YthldahaimcdejaaDoorW.PrintMore GP
set_option linter.unusedVariables false
set_option linter.unusedSimpArgs false
theorem box61 {ρ : Operand → Value} {o : Oper} {x : Operand} {W : World} {f : Nat → Nat} (ho : o.op = .box 61 x) (hx : ρ x = .agg (V64 f)) : (execOp ρ o).run Tryd.prog W = .ok (.value (.pointer (some ⟨W.heap.size, 0, none⟩))) (W.alloc (.cells (V64 f) 61 (0, 0))) := by
  unfold execOp
  simp only [ho, hx, Sem.run_bind]
  generalize V64 f = A
  rfl
set_option maxHeartbeats 4000000 in
set_option maxRecDepth 100000 in
theorem number_walk (a : Nat) (ha : a < 2 ^ 64) (w : World) : Calls Tryd.prog 44 #[.agg (V64 (cf a))] w fun e w' => e = .returned (.int .u64 (a : Int)) ∧ Below w.heap.size w w' := by
  have HA := Aside0.mk ha
  clear ha
  go_enter Tryd.func44, Tryd.ntmps44
  go_wp2_with (first
    | ((with_reducible refine gate_dst (N := 1) rfl ?_); go_loud (refine box_event ?hg (N := 1) ?hd (cs := V64 (cf a)) (t := 61) ?hr ?_; (case hd => rfl); (case hg => rfl); (case hr => exact box61 (x := .tmp 0) rfl rfl)); intro g2 hg2 w1 hb1 hB1; have R2 := Aside0.mk (v64_row hb1); have B1 := Aside0.mk hB1; have G2 := Aside0.mk hg2; clear hb1 hB1 hg2))
  have GE := Aside0.mk (show w.heap.size ≤ g2 from by have := G2.out; omega)
  clear G2
  go_loopg [3, 4] 65 (fun kq v3 v4 wr => ∃ m : Nat, kq = m + 1 ∧ m ≤ 64 ∧ v4 = .int .i64 ((m : Int) - 1) ∧ v3 = .int .u64 ((a / 2 ^ m : Nat) : Int) ∧ wr.rowIs g2 61 64 (fun j => .int .i64 ((cf a j : Nat) : Int)) ∧ Below w.heap.size w wr)
  case atStart => exact ⟨64, rfl, by omega, by simp, by rw [Nat.div_eq_of_lt HA.out]; rfl, R2.out, B1.out⟩
  case round =>
    obtain ⟨m, rfl, hm, rfl, rfl, hr2, hb⟩ := hrel
    have S2 := Aside0.mk hr2
    have SB := Aside0.mk hb
    clear hr2 hb R2 B1
    cases m with
    | succ k =>
      obtain ⟨x, hx⟩ : ∃ x, x = a / 2 ^ (k + 1) := ⟨_, rfl⟩
      obtain ⟨c, hc⟩ : ∃ c, c = cf a k := ⟨_, rfl⟩
      have hy : 2 * x + c = a / 2 ^ k := by rw [hx, hc]; exact up_step a k
      have hc1 : c ≤ 1 := by rw [hc]; exact cf_le a k
      have hlt : 2 * x + c < 2 ^ 64 := by rw [hy]; exact Nat.lt_of_le_of_lt (Nat.div_le_self _ _) HA.out
      have HY := Aside0.mk hy
      have hk : k < 64 := by omega
      rw [← hx]
      have cz := S2.out.cell hk
      have fz := S2.out.frozen k
      rw [← hc] at cz
      clear hx hc hy
      have e1 : ((k + 1 : Nat) : Int) - 1 = (k : Int) := by omega
      rw [e1]
      clear e1
      go_wp2_with fail
      go_roundg (k + 1)
      case measure => omega
      case rel => exact ⟨k, rfl, by omega, by go_num, by rw [← HY.out]; go_num, S2.out, SB.out⟩
    | zero =>
      go_wp2
      go_ret
      exact ⟨by simp, SB.out⟩
end Go.Proofs.YthldahaimcdejaaDoor.A
