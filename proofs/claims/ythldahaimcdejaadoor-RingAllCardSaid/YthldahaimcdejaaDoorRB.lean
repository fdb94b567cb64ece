/- The document's lists of 64 coefficients, walked by hand. -/
import Derived.Test.YthldahaimcdejaaDoorZ4
import Derived.Test.YthldahaimcdejaaDoorZ1
import Derived.Test.YthldahaimcdejaaDoorProg
import Derived.Deep.OwnRows
import Derived.Deep.LoopGhost
import Derived.Outline
import Derived.BigQuiet
import Derived.Deep.QuietTactic

namespace Go.Proofs.YthldahaimcdejaaDoor.A
open Go.RowKit Go.Deep Go.Proofs.YthldahaimcdejaaDoorW.PrintWords Go.Proofs.YthldahaimcdejaaDoorW.PrintLast Go.Proofs.YthldahaimcdejaaDoorW.PrintMore GP
set_option linter.unusedVariables false
set_option linter.unusedSimpArgs false
/-- 64 whole numbers. -/
def V64 (f : Nat → Nat) : Array Value := ((List.range 64).map fun i => Value.int .i64 ((f i : Nat) : Int)).toArray
def Z64 : Array Value := (List.replicate 64 (Value.int .i64 0)).toArray
theorem z64_row {W : World} {g : Nat} (h : W.heap[g]? = some (.cells Z64 61 (0, 0))) : W.rowIs g 61 64 (fun _ => .int .i64 0) := by
  refine ⟨_, h, by simp [Z64], fun i hi => ?_⟩
  unfold Z64
  rw [List.getElem?_toArray, List.getElem?_replicate, if_pos hi]
theorem v64_size (f : Nat → Nat) : (V64 f).size = 64 := by simp [V64]
theorem v64_get (f : Nat → Nat) {i : Nat} (h : i < 64) : (V64 f)[i]? = some (.int .i64 ((f i : Nat) : Int)) := by
  unfold V64
  rw [List.getElem?_toArray, List.getElem?_map, List.getElem?_range h]; rfl
theorem v64_row {W : World} {g : Nat} {f : Nat → Nat} (h : W.heap[g]? = some (.cells (V64 f) 61 (0, 0))) : W.rowIs g 61 64 (fun j => .int .i64 ((f j : Nat) : Int)) :=
  ⟨_, h, v64_size f, fun i hi => v64_get f hi⟩
theorem load64 {W : World} {g : Nat} {f : Nat → Nat} (h : W.rowIs g 61 64 (fun j => .int .i64 ((f j : Nat) : Int))) : (loadVar 61 ⟨g, 0, none⟩).run Tryd.prog W = .ok (.agg (V64 f)) W := by
  have hl := run_loadCells (P := Tryd.prog) (w := W) ⟨g, 0, none⟩ 64 _ (fun j hj => by rw [add_plain]; exact h.cell hj)
  have h1 : ∀ w, (isAgg 61).run Tryd.prog w = .ok true w := fun _ => by kernel_rfl
  have h2 : ∀ w, (sizeOf 61).run Tryd.prog w = .ok 64 w := fun _ => by kernel_rfl
  unfold loadVar
  simp only [Sem.run_bind, h1, h2, Result.andThen_ok, if_true, hl, Sem.run_pure]
  rfl
theorem loadAt64 {W : World} {g : Nat} {f : Nat → Nat} (h : W.rowIs g 61 64 (fun j => .int .i64 ((f j : Nat) : Int))) : (Instr.loadAt 61 (.pointer (some ⟨g, 0, none⟩))).run Tryd.prog W = .ok (.agg (V64 f)) W := by
  unfold Instr.loadAt Instr.sureAddr
  simp only [Sem.run_bind, Sem.run_pure, Result.andThen_ok]
  exact load64 h
theorem exec_load64 {ρ : Operand → Value} {o : Oper} {x : Operand} {W : World} {g : Nat} {f : Nat → Nat} (ho : o.op = .load 61 x) (hx : ρ x = .pointer (some ⟨g, 0, none⟩)) (h : W.rowIs g 61 64 (fun j => .int .i64 ((f j : Nat) : Int))) : (execOp ρ o).run Tryd.prog W = .ok (.value (.agg (V64 f))) W := by
  unfold execOp
  simp only [ho, hx, Sem.run_bind, loadAt64 h, Result.andThen_ok, Sem.run_pure]
/-- Only block g may have turned. -/
structure But64 (g : Nat) (W W' : World) : Prop where
  os : W'.os = W.os
  tape : W'.tape = W.tape
  output : W'.output = W.output
  size : W'.heap.size = W.heap.size
  block : ∀ k, k ≠ g → W'.heap[k]? = W.heap[k]?
theorem But64.below {g B : Nat} {W W' : World} (h : But64 g W W') (hB : B ≤ g) : Below B W W' := ⟨h.os, h.tape, h.output, by rw [h.size]; exact Nat.le_refl _, fun k hk => h.block k (by omega)⟩
theorem store64 {W : World} {g : Nat} {f0 : Nat → Value} (h : W.rowIs g 61 64 f0) (f : Nat → Nat) : ∃ W', (storeVar 61 ⟨g, 0, none⟩ (.agg (V64 f))).run Tryd.prog W = .ok () W' ∧ W'.rowIs g 61 64 (fun j => .int .i64 ((f j : Nat) : Int)) ∧ But64 g W W' := by
  obtain ⟨Z, hh, hz, _⟩ := h
  have hl : (V64 f).toList.length = 64 := by rw [Array.length_toList, v64_size]
  have hst := run_storeCells_cells (P := Tryd.prog) g 0 (V64 f).toList 0 W (fun j hj => by rw [hl] at hj; rw [blk_cell hh]; simp; omega) (fun j _ => blk_frozen hh _) (fun v hv => by
    unfold V64 at hv
    rw [List.toList_toArray] at hv
    obtain ⟨i, _, rfl⟩ := List.mem_map.1 hv
    rfl)
  obtain ⟨cur', h3, h4, h5⟩ := setCells_row (V64 f).toList 0 W Z hh (by rw [hl]; omega)
  obtain ⟨s1, s2, s3, s4⟩ := setCells_same g (V64 f).toList 0 W
  have hcur : cur' = V64 f := by
    apply Array.toList_inj.1
    rw [h5, List.take_zero, List.nil_append, List.drop_of_length_le (by rw [Array.length_toList, hz, hl]; omega), List.append_nil]
  subst hcur
  have h2 : ∀ w, (sizeOf 61).run Tryd.prog w = .ok 64 w := fun _ => by kernel_rfl
  refine ⟨W.setCells g 0 (V64 f).toList, ?_, v64_row h3, ⟨s1, s2, s3, s4, fun k hk => setCells_far _ _ k (by omega)⟩⟩
  unfold storeVar
  have hc : (Value.agg (V64 f)).cells = V64 f := rfl
  simp only [Sem.run_bind, h2, Result.andThen_ok, hc, v64_size, ne_eq, not_true_eq_false, if_false, hst]
section
variable {P : Program} {ops : Array Oper} {rest : List Oper} {o : Oper} {a : Act} {Q : Exit → Act → World → Prop}
theorem event_skip {W w1 : World} (hgd : o.guard = none) (hd : o.dst = none) (hrun : (execOp a.eval o).run P W = .ok .skip w1) (h : wpList P ops Q rest a w1) : wpList P ops Q (o :: rest) a W := by
  refine wpList_plain hgd fun K hK => ?_
  have e : a.put o.dst undef = a := by rw [hd]; rfl
  unfold Oper.wp
  rw [hrun]
  rw [← e] at h
  exact hK _ _ h
theorem store64_event {W : World} {g : Nat} {f0 : Nat → Value} {f : Nat → Nat} {x y : Operand} (hgd : o.guard = none) (hd : o.dst = none) (ho : o.op = .store 61 x y) (hx : a.eval x = .pointer (some ⟨g, 0, none⟩)) (hy : a.eval y = .agg (V64 f)) (hr : W.rowIs g 61 64 f0)
    (h : ∀ W', W'.rowIs g 61 64 (fun j => .int .i64 ((f j : Nat) : Int)) → But64 g W W' → wpList Tryd.prog ops Q rest a W') : wpList Tryd.prog ops Q (o :: rest) a W := by
  obtain ⟨W', h1, h2, h3⟩ := store64 hr f
  refine event_skip hgd hd (w1 := W') ?_ (h W' h2 h3)
  unfold execOp
  simp only [ho, hx, hy]
  unfold Instr.storeAt Instr.sureAddr
  simp only [Sem.run_bind, Sem.run_pure, Result.andThen_ok, h1]
end
theorem results61 {fn : Func} {tmps : Array Value} {u : Tmp} {W : World} {g : Nat} {f : Nat → Nat} (hf : fn.results = #[ResultVar.cell u 61]) (hu : tmps.getD u undef = .pointer (some ⟨g, 0, none⟩)) (h : W.rowIs g 61 64 (fun j => .int .i64 ((f j : Nat) : Int))) : (results fn tmps).run Tryd.prog W = .ok (.agg (V64 f)) W := by
  have ha : (asAddr (Value.pointer (some ⟨g, 0, none⟩))).run Tryd.prog W = .ok ⟨g, 0, none⟩ W := rfl
  unfold results
  rw [hf]
  simp only [List.mapM_toArray, List.mapM_cons, List.mapM_nil, Sem.run_bind, Sem.run_pure, Result.andThen_ok, hu, ha, load64 h, Sem.run_map]
  rfl
set_option maxHeartbeats 4000000 in
set_option maxRecDepth 100000 in
theorem bits_walk (a : Nat) (ha : a < 2 ^ 64) (w : World) : Calls Tryd.prog 43 #[.int .u64 (a : Int)] w fun e w' => e = .returned (.agg (V64 (cf a))) ∧ Below w.heap.size w w' := by
  have HA := Aside0.mk ha
  clear ha
  go_enter Tryd.func43, Tryd.ntmps43
  go_wp2_with (first
    | ((with_reducible refine gate_dst (N := 2) rfl ?_); refine box_event ?hg (N := 2) ?hd (cs := Z64) (t := 61) ?hr ?_; (case hd => rfl); (case hg => rfl); (case hr => go_simp; rfl); intro g2 hg2 w1 hb1 hB1; have R2 := Aside0.mk (z64_row hb1); have B1 := Aside0.mk hB1; have G2 := Aside0.mk hg2; clear hb1 hB1 hg2)
    | ((with_reducible refine gate_dst (N := 3) rfl ?_); refine box_event ?hg (N := 3) ?hd (cs := Z64) (t := 61) ?hr ?_; (case hd => rfl); (case hg => rfl); (case hr => go_simp; rfl); intro g3 hg3 w2 hb2 hB2; have R3 := Aside0.mk (z64_row hb2); have B2 := Aside0.mk hB2; have G3 := Aside0.mk hg3; clear hb2 hB2 hg3))
  have R2' := Aside0.mk (R2.out.of_block (B2.out.block g2 R2.out.lt))
  have hne : g2 ≠ g3 := by have := G3.out; have := R2.out.lt; omega
  have HNE := Aside0.mk hne
  have BB := Aside0.mk (B1.out.trans (B2.out.mono B1.out.size))
  have GE := Aside0.mk (And.intro (show w.heap.size ≤ g2 from by have := G2.out; omega) (show w.heap.size ≤ g3 from by have := G3.out; have := B1.out.size; omega))
  clear R2 B1 B2 G2 G3 hne
  go_loopg [0, 4] 64 (fun kq v0 v4 wr => ∃ i : Nat, kq = 64 - i ∧ i ≤ 64 ∧ v4 = .int .i64 (i : Int) ∧ v0 = .int .u64 ((a / 2 ^ i : Nat) : Int) ∧ wr.rowIs g2 61 64 (fun _ => .int .i64 0) ∧ wr.rowIs g3 61 64 (fun j => .int .i64 (if j < i then ((cf a j : Nat) : Int) else 0)) ∧ Below w.heap.size w wr)
  case atStart => exact ⟨0, rfl, by omega, rfl, by simp, R2'.out, R3.out.congr (fun j _ => by rw [if_neg (by omega)]), BB.out⟩
  case round =>
    obtain ⟨i, rfl, hi, rfl, rfl, hr2, hr3, hb⟩ := hrel
    have S2 := Aside0.mk hr2
    have S3 := Aside0.mk hr3
    have SB := Aside0.mk hb
    clear hr2 hr3 hb R2' R3 BB
    by_cases hlt : i < 64
    · obtain ⟨x, hx⟩ : ∃ x, x = a / 2 ^ i := ⟨_, rfl⟩
      obtain ⟨c, hc⟩ : ∃ c, c = x % 2 := ⟨_, rfl⟩
      obtain ⟨y, hy⟩ : ∃ y, y = x / 2 := ⟨_, rfl⟩
      have HC := Aside0.mk (show c = cf a i by rw [hc, hx]; exact cf_mod a i)
      have HY := Aside0.mk (show y = a / 2 ^ (i + 1) by rw [hy, hx, Nat.pow_succ, Nat.div_div_eq_div_mul])
      have hx64 : x < 2 ^ 64 := by rw [hx]; exact Nat.lt_of_le_of_lt (Nat.div_le_self _ _) HA.out
      have e1 : ((x : Int)) % 2 = (c : Int) := by omega
      have e2 : ((x : Int)) / 2 = (y : Int) := by omega
      have hc1 : c ≤ 1 := by omega
      rw [← hx]
      have HX := Aside0.mk hx
      clear hx hc hy
      have cz := S3.out.cell hlt
      have fz := S3.out.frozen i
      rw [if_neg (Nat.lt_irrefl i)] at cz
      go_wp2_with fail
      have T3 := Aside0.mk ((S3.out.set i (.int .i64 (c : Int))).congr (g := fun j => .int .i64 (if j < i + 1 then ((cf a j : Nat) : Int) else 0)) (fun j hj => by
        by_cases e : j = i
        · rw [if_pos e, if_pos (by omega), HC.out, e]
        · rw [if_neg e]
          have : j < i ↔ j < i + 1 := by omega
          simp only [this]))
      have T2 : Aside0 ((wr.setCell ⟨g3, i, none⟩ (.int .i64 (c : Int))).rowIs g2 61 64 (fun _ => .int .i64 0)) := ⟨S2.out.setOther HNE.out _⟩
      have TB := Aside0.mk (SB.out.setCell (p := ⟨g3, i, none⟩) GE.out.2 (.int .i64 (c : Int)))
      clear S2 S3 SB cz fz e1 e2
      go_roundg (64 - (i + 1))
      case measure => omega
      case rel => exact ⟨i + 1, rfl, by omega, by go_num, by rw [HY.out], T2.out, T3.out, TB.out⟩
    · obtain rfl : i = 64 := by omega
      have S4 := Aside0.mk (S3.out.congr (g := fun j => .int .i64 ((cf a j : Nat) : Int)) (fun j hj => by rw [if_pos hj]))
      go_wp2_with (first
        | ((with_reducible refine gate_dst (N := 16) rfl ?_); refine Kd.event_run (v := .agg (V64 (cf a))) (w1 := wr) rfl (exec_load64 (x := .tmp 3) rfl rfl S4.out) ?_)
        | (refine store64_event (g := g2) (f := cf a) (x := .tmp 2) (y := .tmp 16) rfl rfl rfl rfl rfl S2.out ?_; intro w5 hr5 hb5; have S5 := Aside0.mk hr5; have B5 := Aside0.mk hb5; clear hr5 hb5))
      refine bodyPost_ret (v := .agg (V64 (cf a))) ?_ rfl ⟨rfl, SB.out.trans (B5.out.below GE.out.1)⟩
      exact results61 rfl rfl S5.out
end Go.Proofs.YthldahaimcdejaaDoor.A
