import Derived.Test.YthldahaimcdejaaDoorLx0
import Derived.Test.YthldahaimcdejaaDoorLx1
import Derived.Test.YthldahaimcdejaaDoorLx2
import Derived.Test.YthldahaimcdejaaDoorLx3
-- Printed for this claim by mp.py, a program of its prover, through the kit's print. Lean checks it.
namespace Go.Proofs.YthldahaimcdejaaDoor.L
open Go.RowKit Go.Proofs.YthldahaimcdejaaDoorW.PrintWords Go.Proofs.YthldahaimcdejaaDoorW.PrintLast Go.Proofs.YthldahaimcdejaaDoorW.PrintMore Go.Proofs.YthldahaimcdejaaDoor.A
attribute [local go_sem] max2_int min2_int max_two min_two max_three min_three max_four min_four   -- for this text's walks alone
set_option linter.unusedVariables false
set_option linter.unusedSimpArgs false

/-! ### culletlaw01_plays: function 24 -/
mutual
def culletlaw01_plays.j0 : Nat → Int → Bool → Int → Int → Int → Int → ByteArray → Option (Bool)
 | 0, _, _, _, _, _, _, _ => none
 | k + 1, x4, x5, x166000, x166001, x166002, x166003, x166004 => if x5 = true then ((culletlaw01_products.f k x166000 x166001 x166002 x166003 x166004).bind fun t166 => (some t166)) else (if x4 = 4 then (culletlaw01_plays.j1 k x4 (x4 == 4) x166000 x166001 x166002 x166003 x166004) else (culletlaw01_plays.j1 k x4 (x4 == 5) x166000 x166001 x166002 x166003 x166004))
def culletlaw01_plays.j1 : Nat → Int → Bool → Int → Int → Int → Int → ByteArray → Option (Bool)
 | 0, _, _, _, _, _, _, _ => none
 | k + 1, x4, x11, x166000, x166001, x166002, x166003, x166004 => if x11 = true then ((culletlaw01_common.f k x166000 x166001 x166002 x166003 x166004).bind fun t167 => (some t167)) else (if x4 = 6 then (culletlaw01_plays.j2 k x4 (x4 == 6) x166000 x166001 x166002 x166003 x166004) else (if x4 = 7 then (culletlaw01_plays.j2 k x4 (x4 == 7) x166000 x166001 x166002 x166003 x166004) else (culletlaw01_plays.j2 k x4 (x4 == 8) x166000 x166001 x166002 x166003 x166004)))
def culletlaw01_plays.j2 : Nat → Int → Bool → Int → Int → Int → Int → ByteArray → Option (Bool)
 | 0, _, _, _, _, _, _, _ => none
 | k + 1, x4, x16, x166000, x166001, x166002, x166003, x166004 => if x16 = true then ((culletlaw01_residues.f k x166000 x166001 x166002 x166003 x166004).bind fun t168 => (some t168)) else (if x4 = 9 then (culletlaw01_plays.j3 k x4 (x4 == 9) x166000 x166001 x166002 x166003 x166004) else (if x4 = 10 then (culletlaw01_plays.j3 k x4 (x4 == 10) x166000 x166001 x166002 x166003 x166004) else (culletlaw01_plays.j3 k x4 (x4 == 11) x166000 x166001 x166002 x166003 x166004)))
def culletlaw01_plays.j3 : Nat → Int → Bool → Int → Int → Int → Int → ByteArray → Option (Bool)
 | 0, _, _, _, _, _, _, _ => none
 | k + 1, x4, x22, x166000, x166001, x166002, x166003, x166004 => if x22 = true then ((culletlaw01_kinds.f k x166000 x166001 x166002 x166003 x166004).bind fun t169 => (some t169)) else (if x4 = 12 then ((culletlaw01_texts.f x166000 x166001 x166002 x166003 x166004).bind fun t170 => (some t170)) else (if x4 = 13 then ((culletlaw01_texts.f x166000 x166001 x166002 x166003 x166004).bind fun t171 => (some t171)) else (some true)))
end
def culletlaw01_plays.f (k : Nat) (a0_0 : Int) (a0_1 : Int) (a0_2 : Int) (a0_3 : Int) (a0_4 : ByteArray) : Option (Bool) := if a0_0 = 1 then (culletlaw01_plays.j0 k a0_0 (a0_0 == 1) a0_0 a0_1 a0_2 a0_3 a0_4) else (if a0_0 = 2 then (culletlaw01_plays.j0 k a0_0 (a0_0 == 2) a0_0 a0_1 a0_2 a0_3 a0_4) else (culletlaw01_plays.j0 k a0_0 (a0_0 == 3) a0_0 a0_1 a0_2 a0_3 a0_4))
theorem culletlaw01_plays.mono_l : ∀ k, (∀ y0 y1 y2 y3 y4 y5 y6, LeO (culletlaw01_plays.j0 k y0 y1 y2 y3 y4 y5 y6) (culletlaw01_plays.j0 (k + 1) y0 y1 y2 y3 y4 y5 y6)) ∧ (∀ y0 y1 y2 y3 y4 y5 y6, LeO (culletlaw01_plays.j1 k y0 y1 y2 y3 y4 y5 y6) (culletlaw01_plays.j1 (k + 1) y0 y1 y2 y3 y4 y5 y6)) ∧ (∀ y0 y1 y2 y3 y4 y5 y6, LeO (culletlaw01_plays.j2 k y0 y1 y2 y3 y4 y5 y6) (culletlaw01_plays.j2 (k + 1) y0 y1 y2 y3 y4 y5 y6)) ∧ (∀ y0 y1 y2 y3 y4 y5 y6, LeO (culletlaw01_plays.j3 k y0 y1 y2 y3 y4 y5 y6) (culletlaw01_plays.j3 (k + 1) y0 y1 y2 y3 y4 y5 y6))
 | 0 => ⟨fun _ _ _ _ _ _ _ r h => by simp [culletlaw01_plays.j0] at h, fun _ _ _ _ _ _ _ r h => by simp [culletlaw01_plays.j1] at h, fun _ _ _ _ _ _ _ r h => by simp [culletlaw01_plays.j2] at h, fun _ _ _ _ _ _ _ r h => by simp [culletlaw01_plays.j3] at h⟩
 | k + 1 => by
  obtain ⟨ih0, ih1, ih2, ih3⟩ := culletlaw01_plays.mono_l k
  refine ⟨?_, ?_, ?_, ?_⟩
  ·intro y0 y1 y2 y3 y4 y5 y6
   unfold culletlaw01_plays.j0
   repeat' first
   | (with_reducible exact ih0 _ _ _ _ _ _ _)
   | (with_reducible exact ih1 _ _ _ _ _ _ _)
   | (with_reducible exact ih2 _ _ _ _ _ _ _)
   | (with_reducible exact ih3 _ _ _ _ _ _ _)
   | (with_reducible exact culletlaw01_common.mono _ _ _ _ _ _)
   | (with_reducible exact culletlaw01_kinds.mono _ _ _ _ _ _)
   | (with_reducible exact culletlaw01_products.mono _ _ _ _ _ _)
   | (with_reducible exact culletlaw01_residues.mono _ _ _ _ _ _)
   | (with_reducible exact LeO.refl _)
   | (with_reducible exact LeO.none _)
   | (with_reducible refine LeO.ite ?_ ?_)
   | (with_reducible refine LeO.bind ?_ (fun _ => ?_))
   | exact ih0 _ _ _ _ _ _ _
   | exact ih1 _ _ _ _ _ _ _
   | exact ih2 _ _ _ _ _ _ _
   | exact ih3 _ _ _ _ _ _ _
   | exact culletlaw01_common.mono _ _ _ _ _ _
   | exact culletlaw01_kinds.mono _ _ _ _ _ _
   | exact culletlaw01_products.mono _ _ _ _ _ _
   | exact culletlaw01_residues.mono _ _ _ _ _ _
   | exact LeO.none _
   | refine LeO.ite ?_ ?_
   | refine LeO.bind ?_ (fun _ => ?_)
  ·intro y0 y1 y2 y3 y4 y5 y6
   unfold culletlaw01_plays.j1
   repeat' first
   | (with_reducible exact ih0 _ _ _ _ _ _ _)
   | (with_reducible exact ih1 _ _ _ _ _ _ _)
   | (with_reducible exact ih2 _ _ _ _ _ _ _)
   | (with_reducible exact ih3 _ _ _ _ _ _ _)
   | (with_reducible exact culletlaw01_common.mono _ _ _ _ _ _)
   | (with_reducible exact culletlaw01_kinds.mono _ _ _ _ _ _)
   | (with_reducible exact culletlaw01_products.mono _ _ _ _ _ _)
   | (with_reducible exact culletlaw01_residues.mono _ _ _ _ _ _)
   | (with_reducible exact LeO.refl _)
   | (with_reducible exact LeO.none _)
   | (with_reducible refine LeO.ite ?_ ?_)
   | (with_reducible refine LeO.bind ?_ (fun _ => ?_))
   | exact ih0 _ _ _ _ _ _ _
   | exact ih1 _ _ _ _ _ _ _
   | exact ih2 _ _ _ _ _ _ _
   | exact ih3 _ _ _ _ _ _ _
   | exact culletlaw01_common.mono _ _ _ _ _ _
   | exact culletlaw01_kinds.mono _ _ _ _ _ _
   | exact culletlaw01_products.mono _ _ _ _ _ _
   | exact culletlaw01_residues.mono _ _ _ _ _ _
   | exact LeO.none _
   | refine LeO.ite ?_ ?_
   | refine LeO.bind ?_ (fun _ => ?_)
  ·intro y0 y1 y2 y3 y4 y5 y6
   unfold culletlaw01_plays.j2
   repeat' first
   | (with_reducible exact ih0 _ _ _ _ _ _ _)
   | (with_reducible exact ih1 _ _ _ _ _ _ _)
   | (with_reducible exact ih2 _ _ _ _ _ _ _)
   | (with_reducible exact ih3 _ _ _ _ _ _ _)
   | (with_reducible exact culletlaw01_common.mono _ _ _ _ _ _)
   | (with_reducible exact culletlaw01_kinds.mono _ _ _ _ _ _)
   | (with_reducible exact culletlaw01_products.mono _ _ _ _ _ _)
   | (with_reducible exact culletlaw01_residues.mono _ _ _ _ _ _)
   | (with_reducible exact LeO.refl _)
   | (with_reducible exact LeO.none _)
   | (with_reducible refine LeO.ite ?_ ?_)
   | (with_reducible refine LeO.bind ?_ (fun _ => ?_))
   | exact ih0 _ _ _ _ _ _ _
   | exact ih1 _ _ _ _ _ _ _
   | exact ih2 _ _ _ _ _ _ _
   | exact ih3 _ _ _ _ _ _ _
   | exact culletlaw01_common.mono _ _ _ _ _ _
   | exact culletlaw01_kinds.mono _ _ _ _ _ _
   | exact culletlaw01_products.mono _ _ _ _ _ _
   | exact culletlaw01_residues.mono _ _ _ _ _ _
   | exact LeO.none _
   | refine LeO.ite ?_ ?_
   | refine LeO.bind ?_ (fun _ => ?_)
  ·intro y0 y1 y2 y3 y4 y5 y6
   unfold culletlaw01_plays.j3
   repeat' first
   | (with_reducible exact ih0 _ _ _ _ _ _ _)
   | (with_reducible exact ih1 _ _ _ _ _ _ _)
   | (with_reducible exact ih2 _ _ _ _ _ _ _)
   | (with_reducible exact ih3 _ _ _ _ _ _ _)
   | (with_reducible exact culletlaw01_common.mono _ _ _ _ _ _)
   | (with_reducible exact culletlaw01_kinds.mono _ _ _ _ _ _)
   | (with_reducible exact culletlaw01_products.mono _ _ _ _ _ _)
   | (with_reducible exact culletlaw01_residues.mono _ _ _ _ _ _)
   | (with_reducible exact LeO.refl _)
   | (with_reducible exact LeO.none _)
   | (with_reducible refine LeO.ite ?_ ?_)
   | (with_reducible refine LeO.bind ?_ (fun _ => ?_))
   | exact ih0 _ _ _ _ _ _ _
   | exact ih1 _ _ _ _ _ _ _
   | exact ih2 _ _ _ _ _ _ _
   | exact ih3 _ _ _ _ _ _ _
   | exact culletlaw01_common.mono _ _ _ _ _ _
   | exact culletlaw01_kinds.mono _ _ _ _ _ _
   | exact culletlaw01_products.mono _ _ _ _ _ _
   | exact culletlaw01_residues.mono _ _ _ _ _ _
   | exact LeO.none _
   | refine LeO.ite ?_ ?_
   | refine LeO.bind ?_ (fun _ => ?_)
theorem culletlaw01_plays.mono : ∀ a0 a1 a2 a3 a4 k, LeO (culletlaw01_plays.f k a0 a1 a2 a3 a4) (culletlaw01_plays.f (k + 1) a0 a1 a2 a3 a4) := by
 intro a0 a1 a2 a3 a4 k
 obtain ⟨ih0, ih1, ih2, ih3⟩ := culletlaw01_plays.mono_l k
 unfold culletlaw01_plays.f
 repeat' first
   | (with_reducible exact ih0 _ _ _ _ _ _ _)
   | (with_reducible exact ih1 _ _ _ _ _ _ _)
   | (with_reducible exact ih2 _ _ _ _ _ _ _)
   | (with_reducible exact ih3 _ _ _ _ _ _ _)
   | (with_reducible exact culletlaw01_common.mono _ _ _ _ _ _)
   | (with_reducible exact culletlaw01_kinds.mono _ _ _ _ _ _)
   | (with_reducible exact culletlaw01_products.mono _ _ _ _ _ _)
   | (with_reducible exact culletlaw01_residues.mono _ _ _ _ _ _)
   | (with_reducible exact LeO.refl _)
   | (with_reducible exact LeO.none _)
   | (with_reducible refine LeO.ite ?_ ?_)
   | (with_reducible refine LeO.bind ?_ (fun _ => ?_))
   | exact ih0 _ _ _ _ _ _ _
   | exact ih1 _ _ _ _ _ _ _
   | exact ih2 _ _ _ _ _ _ _
   | exact ih3 _ _ _ _ _ _ _
   | exact culletlaw01_common.mono _ _ _ _ _ _
   | exact culletlaw01_kinds.mono _ _ _ _ _ _
   | exact culletlaw01_products.mono _ _ _ _ _ _
   | exact culletlaw01_residues.mono _ _ _ _ _ _
   | exact LeO.none _
   | refine LeO.ite ?_ ?_
   | refine LeO.bind ?_ (fun _ => ?_)
set_option maxHeartbeats 8000000 in
set_option maxRecDepth 100000 in
theorem culletlaw01_plays.calls (k : Nat) (a0_0 : Int) (a0_1 : Int) (a0_2 : Int) (a0_3 : Int) (a0_4 : ByteArray) (r : Bool) (w : World) (h : culletlaw01_plays.f k a0_0 a0_1 a0_2 a0_3 a0_4 = some r) :
  Calls Tryd.prog 24 #[.agg #[.int .i64 a0_0, .int .u64 a0_1, .int .u64 a0_2, .int .u64 a0_3, .string a0_4]] w fun e w' => e = .returned (.bool r) ∧ Below w.heap.size w w' := by
 have hu26 := Tryd.underlying26
 have HB := Aside0.mk (Below.refl w.heap.size w)
 have H : (if a0_0 = 1 then (culletlaw01_plays.j0 k a0_0 (a0_0 == 1) a0_0 a0_1 a0_2 a0_3 a0_4) else (if a0_0 = 2 then (culletlaw01_plays.j0 k a0_0 (a0_0 == 2) a0_0 a0_1 a0_2 a0_3 a0_4) else (culletlaw01_plays.j0 k a0_0 (a0_0 == 3) a0_0 a0_1 a0_2 a0_3 a0_4))) = some r := h
 clear h
 have HC2 := Aside0.mk H
 clear H
 go_enter Tryd.func24, Tryd.ntmps24
 go_upto_if 5 with (first | ((with_reducible refine gate_dst (N := 1) rfl ?_); refine box_event ?hg (N := 1) ?hd (cs := #[.int .i64 a0_0, .int .u64 a0_1, .int .u64 a0_2, .int .u64 a0_3, .string a0_4]) (t := 26) ?hr ?_; (case hd => rfl); (case hg => rfl); (case hr => first | (go_simp; done) | (go_simp; rfl)); intro gb165 hg w3 hbox hb; have n0_ := Aside0.mk (below_step (by repeat (first | (with_reducible first | exact HB.out | apply below_alloc | apply pw_below_drewN | apply below_drew1) | exact HB.out)) hb); have n1_ := Aside0.mk (hbox); have n2_ := Aside0.mk ((by rw [hg]; exact (below_size (by repeat (first | (with_reducible first | exact HB.out | apply below_alloc | apply pw_below_drewN | apply below_drew1) | exact HB.out))) : w.heap.size ≤ gb165)); have n3_ := Aside0.mk ((by rw [hg]; exact (below_size (by repeat (first | (with_reducible first | exact HB.out | apply below_alloc | apply pw_below_drewN | apply below_drew1) | exact HB.out))) : w.heap.size ≤ gb165)); clear HB; have HB := n0_; have BK165 := n1_; have GW165 := n2_; have GE165 := n3_; clear n0_ n1_ n2_ n3_; clear hb hbox hg; have hcz4_0 : w3.cell? ⟨gb165, 0, none⟩ = some (.int .i64 a0_0) := (blk_cell BK165.out 0).trans rfl; have hcz4_1 : w3.cell? ⟨gb165, 1, none⟩ = some (.int .u64 a0_1) := (blk_cell BK165.out 1).trans rfl; have hcz4_2 : w3.cell? ⟨gb165, 2, none⟩ = some (.int .u64 a0_2) := (blk_cell BK165.out 2).trans rfl; have hcz4_3 : w3.cell? ⟨gb165, 3, none⟩ = some (.int .u64 a0_3) := (blk_cell BK165.out 3).trans rfl; have hcz4_4 : w3.cell? ⟨gb165, 4, none⟩ = some (.string a0_4) := (blk_cell BK165.out 4).trans rfl; have hfz4_0 := blk_frozen BK165.out 0; have hfz4_1 := blk_frozen BK165.out 1; have hfz4_2 := blk_frozen BK165.out 2; have hfz4_3 := blk_frozen BK165.out 3; have hfz4_4 := blk_frozen BK165.out 4))
 (try simp only [Act.put, List.setIfInBounds_toArray, List.set_cons_zero, List.set_cons_succ])
 go_cut [5] (fun v5 wc => ∃ (kq : Nat) (x5_1 : Bool), v5 = .bool x5_1 ∧ Aside0 (culletlaw01_plays.j0 kq a0_0 x5_1 a0_0 a0_1 a0_2 a0_3 a0_4 = some r) ∧ Aside0 (kq ≤ k) ∧ Aside0 (wc.heap[gb165]? = some (.cells #[.int .i64 a0_0, .int .u64 a0_1, .int .u64 a0_2, .int .u64 a0_3, .string a0_4] 26 (0, 0))) ∧ Aside0 (Below w.heap.size w wc))
 case first =>
  have H := HC2.out
  clear HC2
  by_cases c5 : a0_0 = 1
  ·rw [if_pos c5] at H
   have c5b0 : (a0_0 == 1) = true := beq_iff_eq.mpr c5
   have c5b1 : (a0_0 != 1) = false := bne_eq_false_iff_eq.mpr c5
   clear c5
   (first | rw [c5b0] | (simp only [i64_w, i32_w]; rw [c5b0]) | skip)
   have H' := Aside0.mk H
   clear H
   go_wp2
   go_meet
   case rel => exact ⟨_, ((a0_0 == 1)), (by first | rfl | (simp; done) | (simp [*]; done)), H', ⟨by first | omega | exact Nat.le_refl _⟩, ⟨by (with_reducible repeat (first | refine blk_drewN ?_ _ | refine blk_drew ?_ | refine blk_alloc ?_ _)); exact BK165.out⟩, ⟨by repeat (first | (with_reducible first | exact HB.out | apply below_alloc | apply pw_below_drewN | apply below_drew1 | refine below_set ?_ GE165.out) | exact HB.out)⟩⟩
  ·rw [if_neg c5] at H
   have c5b0 : (a0_0 == 1) = false := beq_eq_false_iff_ne.mpr c5
   have c5b1 : (a0_0 != 1) = true := bne_iff_ne.mpr c5
   (first | rw [c5b0] | (simp only [i64_w, i32_w]; rw [c5b0]) | skip)
   by_cases c6 : a0_0 = 2
   ·rw [if_pos c6] at H
    have c6b0 : (a0_0 == 2) = true := beq_iff_eq.mpr c6
    have c6b1 : (a0_0 != 2) = false := bne_eq_false_iff_eq.mpr c6
    clear c6
    have H' := Aside0.mk H
    clear H
    go_wp2
    go_meet
    case rel => exact ⟨_, ((a0_0 == 2)), (by first | rfl | (simp; done) | (simp [*]; done)), H', ⟨by first | omega | exact Nat.le_refl _⟩, ⟨by (with_reducible repeat (first | refine blk_drewN ?_ _ | refine blk_drew ?_ | refine blk_alloc ?_ _)); exact BK165.out⟩, ⟨by repeat (first | (with_reducible first | exact HB.out | apply below_alloc | apply pw_below_drewN | apply below_drew1 | refine below_set ?_ GE165.out) | exact HB.out)⟩⟩
   ·rw [if_neg c6] at H
    have c6b0 : (a0_0 == 2) = false := beq_eq_false_iff_ne.mpr c6
    have c6b1 : (a0_0 != 2) = true := bne_iff_ne.mpr c6
    have H' := Aside0.mk H
    clear H
    go_wp2
    go_meet
    case rel => exact ⟨_, ((a0_0 == 3)), (by first | rfl | (simp; done) | (simp [*]; done)), H', ⟨by first | omega | exact Nat.le_refl _⟩, ⟨by (with_reducible repeat (first | refine blk_drewN ?_ _ | refine blk_drew ?_ | refine blk_alloc ?_ _)); exact BK165.out⟩, ⟨by repeat (first | (with_reducible first | exact HB.out | apply below_alloc | apply pw_below_drewN | apply below_drew1 | refine below_set ?_ GE165.out) | exact HB.out)⟩⟩
 case rest =>
  clear HC2
  try clear c2
  try clear p2
  try clear c5
  try clear c5b0
  try clear c5b1
  try clear c6
  try clear c6b0
  try clear c6b1
  try clear hcz4_0
  try clear hcz4_1
  try clear hcz4_2
  try clear hcz4_3
  try clear hcz4_4
  try clear hfz4_0
  try clear hfz4_1
  try clear hfz4_2
  try clear hfz4_3
  try clear hfz4_4
  obtain ⟨kq, x5_1, rfl, HA, HJ1, BK165, HB⟩ := hcut
  cases kq with
  | zero => exact absurd HA.out (by simp [culletlaw01_plays.j0])
  | succ kj1 =>
   have H := HA.out
   clear HA
   simp only [culletlaw01_plays.j0] at H
   by_cases c7 : x5_1 = true
   ·subst c7
    have H1 : ((culletlaw01_products.f kj1 a0_0 a0_1 a0_2 a0_3 a0_4).bind fun t166 => (some t166)) = some r := by rw [if_pos rfl] at H; exact H
    clear H
    have H := H1
    clear H1
    replace H := Option.bind_eq_some_iff.mp H
    obtain ⟨t166, A80, H⟩ := H
    replace H : (some t166) = some r := H
    have A8 := Aside0.mk A80
    clear A80
    obtain rfl := Option.some.inj H
    have hcz9_0 : wc.cell? ⟨gb165, 0, none⟩ = some (.int .i64 a0_0) := (blk_cell BK165.out 0).trans rfl
    have hcz9_1 : wc.cell? ⟨gb165, 1, none⟩ = some (.int .u64 a0_1) := (blk_cell BK165.out 1).trans rfl
    have hcz9_2 : wc.cell? ⟨gb165, 2, none⟩ = some (.int .u64 a0_2) := (blk_cell BK165.out 2).trans rfl
    have hcz9_3 : wc.cell? ⟨gb165, 3, none⟩ = some (.int .u64 a0_3) := (blk_cell BK165.out 3).trans rfl
    have hcz9_4 : wc.cell? ⟨gb165, 4, none⟩ = some (.string a0_4) := (blk_cell BK165.out 4).trans rfl
    have hfz9_0 := blk_frozen BK165.out 0
    have hfz9_1 := blk_frozen BK165.out 1
    have hfz9_2 := blk_frozen BK165.out 2
    have hfz9_3 := blk_frozen BK165.out 3
    have hfz9_4 := blk_frozen BK165.out 4
    go_wp2_with (first | ((with_reducible refine gate_callee (f := 9) rfl ?_); refine goesL_ (some 10) rfl rfl Tryd.func9 (by kernel_rfl) rfl #[.agg #[.int .i64 a0_0, .int .u64 a0_1, .int .u64 a0_2, .int .u64 a0_3, .string a0_4]] rfl (by (try simp only [List.map_toArray, List.map_cons, List.map_nil]); first | done | rfl | (simp only [tb_wrap8]; done) | (simp only [tb_wrap8]; rfl) | (simp only [List.length_drop, List.length_take]; rfl)) ?_; (with_reducible refine (culletlaw01_products.calls kj1 a0_0 a0_1 a0_2 a0_3 a0_4 t166 _ A8.out).mono ?_); rintro e w10 ⟨rfl, hb⟩; refine ⟨_, rfl, ?_⟩; have n0_ := Aside0.mk (blk_below (g := gb165) (o := .cells #[.int .i64 a0_0, .int .u64 a0_1, .int .u64 a0_2, .int .u64 a0_3, .string a0_4] 26 (0, 0)) (by (with_reducible repeat (first | refine blk_drewN ?_ _ | refine blk_drew ?_ | refine blk_alloc ?_ _)); exact BK165.out) hb); have n1_ := Aside0.mk (below_step (by repeat (first | (with_reducible first | exact HB.out | apply below_alloc | apply pw_below_drewN | apply below_drew1 | refine below_set ?_ GE165.out) | exact HB.out)) hb); clear BK165; clear HB; have BK165 := n0_; have HB := n1_; clear n0_ n1_; (try clear hb); (try clear hb2); (try clear hk); (try clear hi)))
    go_ret
    exact ⟨by first | rfl | (simp [errW_none, errW_some] <;> rfl) | (simp [*, errW_none, errW_some] <;> rfl), by repeat (first | (with_reducible first | exact HB.out | apply below_alloc | apply pw_below_drewN | apply below_drew1 | refine below_set ?_ GE165.out) | exact HB.out)⟩
   ·replace c7 := Bool.eq_false_iff.mpr c7
    subst c7
    have H1 : (if a0_0 = 4 then (culletlaw01_plays.j1 kj1 a0_0 (a0_0 == 4) a0_0 a0_1 a0_2 a0_3 a0_4) else (culletlaw01_plays.j1 kj1 a0_0 (a0_0 == 5) a0_0 a0_1 a0_2 a0_3 a0_4)) = some r := by rw [if_neg (show ¬ (false = true) by decide)] at H; exact H
    clear H
    have H := H1
    clear H1
    have HC11 := Aside0.mk H
    clear H
    go_upto_if 11 with (fail)
    go_cut [11] (fun v11 wc => ∃ (kq : Nat) (x11_10 : Bool), v11 = .bool x11_10 ∧ Aside0 (culletlaw01_plays.j1 kq a0_0 x11_10 a0_0 a0_1 a0_2 a0_3 a0_4 = some r) ∧ Aside0 (kq ≤ kj1) ∧ Aside0 (wc.heap[gb165]? = some (.cells #[.int .i64 a0_0, .int .u64 a0_1, .int .u64 a0_2, .int .u64 a0_3, .string a0_4] 26 (0, 0))) ∧ Aside0 (Below w.heap.size w wc))
    case first =>
     have H := HC11.out
     clear HC11
     by_cases c12 : a0_0 = 4
     ·rw [if_pos c12] at H
      have c12b0 : (a0_0 == 4) = true := beq_iff_eq.mpr c12
      have c12b1 : (a0_0 != 4) = false := bne_eq_false_iff_eq.mpr c12
      clear c12
      (first | rw [c12b0] | (simp only [i64_w, i32_w]; rw [c12b0]) | skip)
      have H' := Aside0.mk H
      clear H
      go_wp2
      go_meet
      case rel => exact ⟨_, ((a0_0 == 4)), (by first | rfl | (simp; done) | (simp [*]; done)), H', ⟨by have := HJ1.out; first | omega | exact Nat.le_refl _⟩, ⟨by (with_reducible repeat (first | refine blk_drewN ?_ _ | refine blk_drew ?_ | refine blk_alloc ?_ _)); exact BK165.out⟩, ⟨by repeat (first | (with_reducible first | exact HB.out | apply below_alloc | apply pw_below_drewN | apply below_drew1 | refine below_set ?_ GE165.out) | exact HB.out)⟩⟩
     ·rw [if_neg c12] at H
      have c12b0 : (a0_0 == 4) = false := beq_eq_false_iff_ne.mpr c12
      have c12b1 : (a0_0 != 4) = true := bne_iff_ne.mpr c12
      (first | rw [c12b0] | (simp only [i64_w, i32_w]; rw [c12b0]) | skip)
      have H' := Aside0.mk H
      clear H
      go_wp2
      go_meet
      case rel => exact ⟨_, ((a0_0 == 5)), (by first | rfl | (simp; done) | (simp [*]; done)), H', ⟨by have := HJ1.out; first | omega | exact Nat.le_refl _⟩, ⟨by (with_reducible repeat (first | refine blk_drewN ?_ _ | refine blk_drew ?_ | refine blk_alloc ?_ _)); exact BK165.out⟩, ⟨by repeat (first | (with_reducible first | exact HB.out | apply below_alloc | apply pw_below_drewN | apply below_drew1 | refine below_set ?_ GE165.out) | exact HB.out)⟩⟩
    case rest =>
     clear HC11
     try clear c1
     try clear c2
     try clear p2
     try clear c5
     try clear c5b0
     try clear c5b1
     try clear c6
     try clear c6b0
     try clear c6b1
     try clear c7
     try clear p8
     try clear c9
     try clear c12
     try clear c12b0
     try clear c12b1
     try clear hcz4_0
     try clear hcz4_1
     try clear hcz4_2
     try clear hcz4_3
     try clear hcz4_4
     try clear hcz9_0
     try clear hcz9_1
     try clear hcz9_2
     try clear hcz9_3
     try clear hcz9_4
     try clear hfz4_0
     try clear hfz4_1
     try clear hfz4_2
     try clear hfz4_3
     try clear hfz4_4
     try clear hfz9_0
     try clear hfz9_1
     try clear hfz9_2
     try clear hfz9_3
     try clear hfz9_4
     try clear p2
     obtain ⟨kq, x11_10, rfl, HA, HJ10, BK165, HB⟩ := hcut
     cases kq with
     | zero => exact absurd HA.out (by simp [culletlaw01_plays.j1])
     | succ kj10 =>
      have H := HA.out
      clear HA
      simp only [culletlaw01_plays.j1] at H
      by_cases c13 : x11_10 = true
      ·subst c13
       have H1 : ((culletlaw01_common.f kj10 a0_0 a0_1 a0_2 a0_3 a0_4).bind fun t167 => (some t167)) = some r := by rw [if_pos rfl] at H; exact H
       clear H
       have H := H1
       clear H1
       replace H := Option.bind_eq_some_iff.mp H
       obtain ⟨t167, A140, H⟩ := H
       replace H : (some t167) = some r := H
       have A14 := Aside0.mk A140
       clear A140
       obtain rfl := Option.some.inj H
       have hcz15_0 : wc.cell? ⟨gb165, 0, none⟩ = some (.int .i64 a0_0) := (blk_cell BK165.out 0).trans rfl
       have hcz15_1 : wc.cell? ⟨gb165, 1, none⟩ = some (.int .u64 a0_1) := (blk_cell BK165.out 1).trans rfl
       have hcz15_2 : wc.cell? ⟨gb165, 2, none⟩ = some (.int .u64 a0_2) := (blk_cell BK165.out 2).trans rfl
       have hcz15_3 : wc.cell? ⟨gb165, 3, none⟩ = some (.int .u64 a0_3) := (blk_cell BK165.out 3).trans rfl
       have hcz15_4 : wc.cell? ⟨gb165, 4, none⟩ = some (.string a0_4) := (blk_cell BK165.out 4).trans rfl
       have hfz15_0 := blk_frozen BK165.out 0
       have hfz15_1 := blk_frozen BK165.out 1
       have hfz15_2 := blk_frozen BK165.out 2
       have hfz15_3 := blk_frozen BK165.out 3
       have hfz15_4 := blk_frozen BK165.out 4
       go_wp2_with (first | ((with_reducible refine gate_callee (f := 12) rfl ?_); refine goesL_ (some 15) rfl rfl Tryd.func12 (by kernel_rfl) rfl #[.agg #[.int .i64 a0_0, .int .u64 a0_1, .int .u64 a0_2, .int .u64 a0_3, .string a0_4]] rfl (by (try simp only [List.map_toArray, List.map_cons, List.map_nil]); first | done | rfl | (simp only [tb_wrap8]; done) | (simp only [tb_wrap8]; rfl) | (simp only [List.length_drop, List.length_take]; rfl)) ?_; (with_reducible refine (culletlaw01_common.calls kj10 a0_0 a0_1 a0_2 a0_3 a0_4 t167 _ A14.out).mono ?_); rintro e w16 ⟨rfl, hb⟩; refine ⟨_, rfl, ?_⟩; have n0_ := Aside0.mk (blk_below (g := gb165) (o := .cells #[.int .i64 a0_0, .int .u64 a0_1, .int .u64 a0_2, .int .u64 a0_3, .string a0_4] 26 (0, 0)) (by (with_reducible repeat (first | refine blk_drewN ?_ _ | refine blk_drew ?_ | refine blk_alloc ?_ _)); exact BK165.out) hb); have n1_ := Aside0.mk (below_step (by repeat (first | (with_reducible first | exact HB.out | apply below_alloc | apply pw_below_drewN | apply below_drew1 | refine below_set ?_ GE165.out) | exact HB.out)) hb); clear BK165; clear HB; have BK165 := n0_; have HB := n1_; clear n0_ n1_; (try clear hb); (try clear hb2); (try clear hk); (try clear hi)))
       go_ret
       exact ⟨by first | rfl | (simp [errW_none, errW_some] <;> rfl) | (simp [*, errW_none, errW_some] <;> rfl), by repeat (first | (with_reducible first | exact HB.out | apply below_alloc | apply pw_below_drewN | apply below_drew1 | refine below_set ?_ GE165.out) | exact HB.out)⟩
      ·replace c13 := Bool.eq_false_iff.mpr c13
       subst c13
       have H1 : (if a0_0 = 6 then (culletlaw01_plays.j2 kj10 a0_0 (a0_0 == 6) a0_0 a0_1 a0_2 a0_3 a0_4) else (if a0_0 = 7 then (culletlaw01_plays.j2 kj10 a0_0 (a0_0 == 7) a0_0 a0_1 a0_2 a0_3 a0_4) else (culletlaw01_plays.j2 kj10 a0_0 (a0_0 == 8) a0_0 a0_1 a0_2 a0_3 a0_4))) = some r := by rw [if_neg (show ¬ (false = true) by decide)] at H; exact H
       clear H
       have H := H1
       clear H1
       have HC17 := Aside0.mk H
       clear H
       go_upto_if 16 with (fail)
       go_cut [16] (fun v16 wc => ∃ (kq : Nat) (x16_16 : Bool), v16 = .bool x16_16 ∧ Aside0 (culletlaw01_plays.j2 kq a0_0 x16_16 a0_0 a0_1 a0_2 a0_3 a0_4 = some r) ∧ Aside0 (kq ≤ kj10) ∧ Aside0 (wc.heap[gb165]? = some (.cells #[.int .i64 a0_0, .int .u64 a0_1, .int .u64 a0_2, .int .u64 a0_3, .string a0_4] 26 (0, 0))) ∧ Aside0 (Below w.heap.size w wc))
       case first =>
        have H := HC17.out
        clear HC17
        by_cases c18 : a0_0 = 6
        ·rw [if_pos c18] at H
         have c18b0 : (a0_0 == 6) = true := beq_iff_eq.mpr c18
         have c18b1 : (a0_0 != 6) = false := bne_eq_false_iff_eq.mpr c18
         clear c18
         (first | rw [c18b0] | (simp only [i64_w, i32_w]; rw [c18b0]) | skip)
         have H' := Aside0.mk H
         clear H
         go_wp2
         go_meet
         case rel => exact ⟨_, ((a0_0 == 6)), (by first | rfl | (simp; done) | (simp [*]; done)), H', ⟨by have := HJ1.out; have := HJ10.out; first | omega | exact Nat.le_refl _⟩, ⟨by (with_reducible repeat (first | refine blk_drewN ?_ _ | refine blk_drew ?_ | refine blk_alloc ?_ _)); exact BK165.out⟩, ⟨by repeat (first | (with_reducible first | exact HB.out | apply below_alloc | apply pw_below_drewN | apply below_drew1 | refine below_set ?_ GE165.out) | exact HB.out)⟩⟩
        ·rw [if_neg c18] at H
         have c18b0 : (a0_0 == 6) = false := beq_eq_false_iff_ne.mpr c18
         have c18b1 : (a0_0 != 6) = true := bne_iff_ne.mpr c18
         (first | rw [c18b0] | (simp only [i64_w, i32_w]; rw [c18b0]) | skip)
         by_cases c19 : a0_0 = 7
         ·rw [if_pos c19] at H
          have c19b0 : (a0_0 == 7) = true := beq_iff_eq.mpr c19
          have c19b1 : (a0_0 != 7) = false := bne_eq_false_iff_eq.mpr c19
          clear c19
          have H' := Aside0.mk H
          clear H
          go_wp2
          go_meet
          case rel => exact ⟨_, ((a0_0 == 7)), (by first | rfl | (simp; done) | (simp [*]; done)), H', ⟨by have := HJ1.out; have := HJ10.out; first | omega | exact Nat.le_refl _⟩, ⟨by (with_reducible repeat (first | refine blk_drewN ?_ _ | refine blk_drew ?_ | refine blk_alloc ?_ _)); exact BK165.out⟩, ⟨by repeat (first | (with_reducible first | exact HB.out | apply below_alloc | apply pw_below_drewN | apply below_drew1 | refine below_set ?_ GE165.out) | exact HB.out)⟩⟩
         ·rw [if_neg c19] at H
          have c19b0 : (a0_0 == 7) = false := beq_eq_false_iff_ne.mpr c19
          have c19b1 : (a0_0 != 7) = true := bne_iff_ne.mpr c19
          have H' := Aside0.mk H
          clear H
          go_wp2
          go_meet
          case rel => exact ⟨_, ((a0_0 == 8)), (by first | rfl | (simp; done) | (simp [*]; done)), H', ⟨by have := HJ1.out; have := HJ10.out; first | omega | exact Nat.le_refl _⟩, ⟨by (with_reducible repeat (first | refine blk_drewN ?_ _ | refine blk_drew ?_ | refine blk_alloc ?_ _)); exact BK165.out⟩, ⟨by repeat (first | (with_reducible first | exact HB.out | apply below_alloc | apply pw_below_drewN | apply below_drew1 | refine below_set ?_ GE165.out) | exact HB.out)⟩⟩
       case rest =>
        clear HC17
        try clear c1
        try clear c2
        try clear p2
        try clear c5
        try clear c5b0
        try clear c5b1
        try clear c6
        try clear c6b0
        try clear c6b1
        try clear c7
        try clear p8
        try clear c9
        try clear c12
        try clear c12b0
        try clear c12b1
        try clear c13
        try clear c18
        try clear c18b0
        try clear c18b1
        try clear c19
        try clear c19b0
        try clear c19b1
        try clear hcz15_0
        try clear hcz15_1
        try clear hcz15_2
        try clear hcz15_3
        try clear hcz15_4
        try clear hcz4_0
        try clear hcz4_1
        try clear hcz4_2
        try clear hcz4_3
        try clear hcz4_4
        try clear hcz9_0
        try clear hcz9_1
        try clear hcz9_2
        try clear hcz9_3
        try clear hcz9_4
        try clear hfz15_0
        try clear hfz15_1
        try clear hfz15_2
        try clear hfz15_3
        try clear hfz15_4
        try clear hfz4_0
        try clear hfz4_1
        try clear hfz4_2
        try clear hfz4_3
        try clear hfz4_4
        try clear hfz9_0
        try clear hfz9_1
        try clear hfz9_2
        try clear hfz9_3
        try clear hfz9_4
        try clear p2
        try clear p8
        obtain ⟨kq, x16_16, rfl, HA, HJ16, BK165, HB⟩ := hcut
        cases kq with
        | zero => exact absurd HA.out (by simp [culletlaw01_plays.j2])
        | succ kj16 =>
         have H := HA.out
         clear HA
         simp only [culletlaw01_plays.j2] at H
         by_cases c20 : x16_16 = true
         ·subst c20
          have H1 : ((culletlaw01_residues.f kj16 a0_0 a0_1 a0_2 a0_3 a0_4).bind fun t168 => (some t168)) = some r := by rw [if_pos rfl] at H; exact H
          clear H
          have H := H1
          clear H1
          replace H := Option.bind_eq_some_iff.mp H
          obtain ⟨t168, A210, H⟩ := H
          replace H : (some t168) = some r := H
          have A21 := Aside0.mk A210
          clear A210
          obtain rfl := Option.some.inj H
          have hcz22_0 : wc.cell? ⟨gb165, 0, none⟩ = some (.int .i64 a0_0) := (blk_cell BK165.out 0).trans rfl
          have hcz22_1 : wc.cell? ⟨gb165, 1, none⟩ = some (.int .u64 a0_1) := (blk_cell BK165.out 1).trans rfl
          have hcz22_2 : wc.cell? ⟨gb165, 2, none⟩ = some (.int .u64 a0_2) := (blk_cell BK165.out 2).trans rfl
          have hcz22_3 : wc.cell? ⟨gb165, 3, none⟩ = some (.int .u64 a0_3) := (blk_cell BK165.out 3).trans rfl
          have hcz22_4 : wc.cell? ⟨gb165, 4, none⟩ = some (.string a0_4) := (blk_cell BK165.out 4).trans rfl
          have hfz22_0 := blk_frozen BK165.out 0
          have hfz22_1 := blk_frozen BK165.out 1
          have hfz22_2 := blk_frozen BK165.out 2
          have hfz22_3 := blk_frozen BK165.out 3
          have hfz22_4 := blk_frozen BK165.out 4
          go_wp2_with (first | ((with_reducible refine gate_callee (f := 14) rfl ?_); refine goesL_ (some 21) rfl rfl Tryd.func14 (by kernel_rfl) rfl #[.agg #[.int .i64 a0_0, .int .u64 a0_1, .int .u64 a0_2, .int .u64 a0_3, .string a0_4]] rfl (by (try simp only [List.map_toArray, List.map_cons, List.map_nil]); first | done | rfl | (simp only [tb_wrap8]; done) | (simp only [tb_wrap8]; rfl) | (simp only [List.length_drop, List.length_take]; rfl)) ?_; (with_reducible refine (culletlaw01_residues.calls kj16 a0_0 a0_1 a0_2 a0_3 a0_4 t168 _ A21.out).mono ?_); rintro e w23 ⟨rfl, hb⟩; refine ⟨_, rfl, ?_⟩; have n0_ := Aside0.mk (blk_below (g := gb165) (o := .cells #[.int .i64 a0_0, .int .u64 a0_1, .int .u64 a0_2, .int .u64 a0_3, .string a0_4] 26 (0, 0)) (by (with_reducible repeat (first | refine blk_drewN ?_ _ | refine blk_drew ?_ | refine blk_alloc ?_ _)); exact BK165.out) hb); have n1_ := Aside0.mk (below_step (by repeat (first | (with_reducible first | exact HB.out | apply below_alloc | apply pw_below_drewN | apply below_drew1 | refine below_set ?_ GE165.out) | exact HB.out)) hb); clear BK165; clear HB; have BK165 := n0_; have HB := n1_; clear n0_ n1_; (try clear hb); (try clear hb2); (try clear hk); (try clear hi)))
          go_ret
          exact ⟨by first | rfl | (simp [errW_none, errW_some] <;> rfl) | (simp [*, errW_none, errW_some] <;> rfl), by repeat (first | (with_reducible first | exact HB.out | apply below_alloc | apply pw_below_drewN | apply below_drew1 | refine below_set ?_ GE165.out) | exact HB.out)⟩
         ·replace c20 := Bool.eq_false_iff.mpr c20
          subst c20
          have H1 : (if a0_0 = 9 then (culletlaw01_plays.j3 kj16 a0_0 (a0_0 == 9) a0_0 a0_1 a0_2 a0_3 a0_4) else (if a0_0 = 10 then (culletlaw01_plays.j3 kj16 a0_0 (a0_0 == 10) a0_0 a0_1 a0_2 a0_3 a0_4) else (culletlaw01_plays.j3 kj16 a0_0 (a0_0 == 11) a0_0 a0_1 a0_2 a0_3 a0_4))) = some r := by rw [if_neg (show ¬ (false = true) by decide)] at H; exact H
          clear H
          have H := H1
          clear H1
          have HC24 := Aside0.mk H
          clear H
          go_upto_if 22 with (fail)
          go_cut [22] (fun v22 wc => ∃ (kq : Nat) (x22_23 : Bool), v22 = .bool x22_23 ∧ Aside0 (culletlaw01_plays.j3 kq a0_0 x22_23 a0_0 a0_1 a0_2 a0_3 a0_4 = some r) ∧ Aside0 (kq ≤ kj16) ∧ Aside0 (wc.heap[gb165]? = some (.cells #[.int .i64 a0_0, .int .u64 a0_1, .int .u64 a0_2, .int .u64 a0_3, .string a0_4] 26 (0, 0))) ∧ Aside0 (Below w.heap.size w wc))
          case first =>
           have H := HC24.out
           clear HC24
           by_cases c25 : a0_0 = 9
           ·rw [if_pos c25] at H
            have c25b0 : (a0_0 == 9) = true := beq_iff_eq.mpr c25
            have c25b1 : (a0_0 != 9) = false := bne_eq_false_iff_eq.mpr c25
            clear c25
            (first | rw [c25b0] | (simp only [i64_w, i32_w]; rw [c25b0]) | skip)
            have H' := Aside0.mk H
            clear H
            go_wp2
            go_meet
            case rel => exact ⟨_, ((a0_0 == 9)), (by first | rfl | (simp; done) | (simp [*]; done)), H', ⟨by have := HJ1.out; have := HJ10.out; have := HJ16.out; first | omega | exact Nat.le_refl _⟩, ⟨by (with_reducible repeat (first | refine blk_drewN ?_ _ | refine blk_drew ?_ | refine blk_alloc ?_ _)); exact BK165.out⟩, ⟨by repeat (first | (with_reducible first | exact HB.out | apply below_alloc | apply pw_below_drewN | apply below_drew1 | refine below_set ?_ GE165.out) | exact HB.out)⟩⟩
           ·rw [if_neg c25] at H
            have c25b0 : (a0_0 == 9) = false := beq_eq_false_iff_ne.mpr c25
            have c25b1 : (a0_0 != 9) = true := bne_iff_ne.mpr c25
            (first | rw [c25b0] | (simp only [i64_w, i32_w]; rw [c25b0]) | skip)
            by_cases c26 : a0_0 = 10
            ·rw [if_pos c26] at H
             have c26b0 : (a0_0 == 10) = true := beq_iff_eq.mpr c26
             have c26b1 : (a0_0 != 10) = false := bne_eq_false_iff_eq.mpr c26
             clear c26
             have H' := Aside0.mk H
             clear H
             go_wp2
             go_meet
             case rel => exact ⟨_, ((a0_0 == 10)), (by first | rfl | (simp; done) | (simp [*]; done)), H', ⟨by have := HJ1.out; have := HJ10.out; have := HJ16.out; first | omega | exact Nat.le_refl _⟩, ⟨by (with_reducible repeat (first | refine blk_drewN ?_ _ | refine blk_drew ?_ | refine blk_alloc ?_ _)); exact BK165.out⟩, ⟨by repeat (first | (with_reducible first | exact HB.out | apply below_alloc | apply pw_below_drewN | apply below_drew1 | refine below_set ?_ GE165.out) | exact HB.out)⟩⟩
            ·rw [if_neg c26] at H
             have c26b0 : (a0_0 == 10) = false := beq_eq_false_iff_ne.mpr c26
             have c26b1 : (a0_0 != 10) = true := bne_iff_ne.mpr c26
             have H' := Aside0.mk H
             clear H
             go_wp2
             go_meet
             case rel => exact ⟨_, ((a0_0 == 11)), (by first | rfl | (simp; done) | (simp [*]; done)), H', ⟨by have := HJ1.out; have := HJ10.out; have := HJ16.out; first | omega | exact Nat.le_refl _⟩, ⟨by (with_reducible repeat (first | refine blk_drewN ?_ _ | refine blk_drew ?_ | refine blk_alloc ?_ _)); exact BK165.out⟩, ⟨by repeat (first | (with_reducible first | exact HB.out | apply below_alloc | apply pw_below_drewN | apply below_drew1 | refine below_set ?_ GE165.out) | exact HB.out)⟩⟩
          case rest =>
           clear HC24
           try clear c1
           try clear c2
           try clear p2
           try clear c5
           try clear c5b0
           try clear c5b1
           try clear c6
           try clear c6b0
           try clear c6b1
           try clear c7
           try clear p8
           try clear c9
           try clear c12
           try clear c12b0
           try clear c12b1
           try clear c13
           try clear c14
           try clear c18
           try clear c18b0
           try clear c18b1
           try clear c19
           try clear c19b0
           try clear c19b1
           try clear c20
           try clear c24
           try clear c25
           try clear c25b0
           try clear c25b1
           try clear c26
           try clear c26b0
           try clear c26b1
           try clear hcz15_0
           try clear hcz15_1
           try clear hcz15_2
           try clear hcz15_3
           try clear hcz15_4
           try clear hcz22_0
           try clear hcz22_1
           try clear hcz22_2
           try clear hcz22_3
           try clear hcz22_4
           try clear hcz4_0
           try clear hcz4_1
           try clear hcz4_2
           try clear hcz4_3
           try clear hcz4_4
           try clear hcz9_0
           try clear hcz9_1
           try clear hcz9_2
           try clear hcz9_3
           try clear hcz9_4
           try clear hfz15_0
           try clear hfz15_1
           try clear hfz15_2
           try clear hfz15_3
           try clear hfz15_4
           try clear hfz22_0
           try clear hfz22_1
           try clear hfz22_2
           try clear hfz22_3
           try clear hfz22_4
           try clear hfz4_0
           try clear hfz4_1
           try clear hfz4_2
           try clear hfz4_3
           try clear hfz4_4
           try clear hfz9_0
           try clear hfz9_1
           try clear hfz9_2
           try clear hfz9_3
           try clear hfz9_4
           try clear p2
           try clear p8
           obtain ⟨kq, x22_23, rfl, HA, HJ23, BK165, HB⟩ := hcut
           cases kq with
           | zero => exact absurd HA.out (by simp [culletlaw01_plays.j3])
           | succ kj23 =>
            have H := HA.out
            clear HA
            simp only [culletlaw01_plays.j3] at H
            by_cases c27 : x22_23 = true
            ·subst c27
             have H1 : ((culletlaw01_kinds.f kj23 a0_0 a0_1 a0_2 a0_3 a0_4).bind fun t169 => (some t169)) = some r := by rw [if_pos rfl] at H; exact H
             clear H
             have H := H1
             clear H1
             replace H := Option.bind_eq_some_iff.mp H
             obtain ⟨t169, A280, H⟩ := H
             replace H : (some t169) = some r := H
             have A28 := Aside0.mk A280
             clear A280
             obtain rfl := Option.some.inj H
             have hcz29_0 : wc.cell? ⟨gb165, 0, none⟩ = some (.int .i64 a0_0) := (blk_cell BK165.out 0).trans rfl
             have hcz29_1 : wc.cell? ⟨gb165, 1, none⟩ = some (.int .u64 a0_1) := (blk_cell BK165.out 1).trans rfl
             have hcz29_2 : wc.cell? ⟨gb165, 2, none⟩ = some (.int .u64 a0_2) := (blk_cell BK165.out 2).trans rfl
             have hcz29_3 : wc.cell? ⟨gb165, 3, none⟩ = some (.int .u64 a0_3) := (blk_cell BK165.out 3).trans rfl
             have hcz29_4 : wc.cell? ⟨gb165, 4, none⟩ = some (.string a0_4) := (blk_cell BK165.out 4).trans rfl
             have hfz29_0 := blk_frozen BK165.out 0
             have hfz29_1 := blk_frozen BK165.out 1
             have hfz29_2 := blk_frozen BK165.out 2
             have hfz29_3 := blk_frozen BK165.out 3
             have hfz29_4 := blk_frozen BK165.out 4
             go_wp2_with (first | ((with_reducible refine gate_callee (f := 15) rfl ?_); refine goesL_ (some 27) rfl rfl Tryd.func15 (by kernel_rfl) rfl #[.agg #[.int .i64 a0_0, .int .u64 a0_1, .int .u64 a0_2, .int .u64 a0_3, .string a0_4]] rfl (by (try simp only [List.map_toArray, List.map_cons, List.map_nil]); first | done | rfl | (simp only [tb_wrap8]; done) | (simp only [tb_wrap8]; rfl) | (simp only [List.length_drop, List.length_take]; rfl)) ?_; (with_reducible refine (culletlaw01_kinds.calls kj23 a0_0 a0_1 a0_2 a0_3 a0_4 t169 _ A28.out).mono ?_); rintro e w30 ⟨rfl, hb⟩; refine ⟨_, rfl, ?_⟩; have n0_ := Aside0.mk (blk_below (g := gb165) (o := .cells #[.int .i64 a0_0, .int .u64 a0_1, .int .u64 a0_2, .int .u64 a0_3, .string a0_4] 26 (0, 0)) (by (with_reducible repeat (first | refine blk_drewN ?_ _ | refine blk_drew ?_ | refine blk_alloc ?_ _)); exact BK165.out) hb); have n1_ := Aside0.mk (below_step (by repeat (first | (with_reducible first | exact HB.out | apply below_alloc | apply pw_below_drewN | apply below_drew1 | refine below_set ?_ GE165.out) | exact HB.out)) hb); clear BK165; clear HB; have BK165 := n0_; have HB := n1_; clear n0_ n1_; (try clear hb); (try clear hb2); (try clear hk); (try clear hi)))
             go_ret
             exact ⟨by first | rfl | (simp [errW_none, errW_some] <;> rfl) | (simp [*, errW_none, errW_some] <;> rfl), by repeat (first | (with_reducible first | exact HB.out | apply below_alloc | apply pw_below_drewN | apply below_drew1 | refine below_set ?_ GE165.out) | exact HB.out)⟩
            ·replace c27 := Bool.eq_false_iff.mpr c27
             subst c27
             have H1 : (if a0_0 = 12 then ((culletlaw01_texts.f a0_0 a0_1 a0_2 a0_3 a0_4).bind fun t170 => (some t170)) else (if a0_0 = 13 then ((culletlaw01_texts.f a0_0 a0_1 a0_2 a0_3 a0_4).bind fun t171 => (some t171)) else (some true))) = some r := by rw [if_neg (show ¬ (false = true) by decide)] at H; exact H
             clear H
             have H := H1
             clear H1
             by_cases c31 : a0_0 = 12
             ·rw [if_pos c31] at H
              have c31b0 : (a0_0 == 12) = true := beq_iff_eq.mpr c31
              have c31b1 : (a0_0 != 12) = false := bne_eq_false_iff_eq.mpr c31
              clear c31
              replace H := Option.bind_eq_some_iff.mp H
              obtain ⟨t170, A320, H⟩ := H
              replace H : (some t170) = some r := H
              have A32 := Aside0.mk A320
              clear A320
              obtain rfl := Option.some.inj H
              have hcz33_0 : wc.cell? ⟨gb165, 0, none⟩ = some (.int .i64 a0_0) := (blk_cell BK165.out 0).trans rfl
              have hcz33_1 : wc.cell? ⟨gb165, 1, none⟩ = some (.int .u64 a0_1) := (blk_cell BK165.out 1).trans rfl
              have hcz33_2 : wc.cell? ⟨gb165, 2, none⟩ = some (.int .u64 a0_2) := (blk_cell BK165.out 2).trans rfl
              have hcz33_3 : wc.cell? ⟨gb165, 3, none⟩ = some (.int .u64 a0_3) := (blk_cell BK165.out 3).trans rfl
              have hcz33_4 : wc.cell? ⟨gb165, 4, none⟩ = some (.string a0_4) := (blk_cell BK165.out 4).trans rfl
              have hfz33_0 := blk_frozen BK165.out 0
              have hfz33_1 := blk_frozen BK165.out 1
              have hfz33_2 := blk_frozen BK165.out 2
              have hfz33_3 := blk_frozen BK165.out 3
              have hfz33_4 := blk_frozen BK165.out 4
              go_wp2_with (first | ((with_reducible refine gate_callee (f := 47) rfl ?_); refine goesL_ (some 32) rfl rfl Tryd.func47 (by kernel_rfl) rfl #[.agg #[.int .i64 a0_0, .int .u64 a0_1, .int .u64 a0_2, .int .u64 a0_3, .string a0_4]] rfl (by (try simp only [List.map_toArray, List.map_cons, List.map_nil]); first | done | rfl | (simp only [tb_wrap8]; done) | (simp only [tb_wrap8]; rfl) | (simp only [List.length_drop, List.length_take]; rfl)) ?_; (with_reducible refine (culletlaw01_texts.calls a0_0 a0_1 a0_2 a0_3 a0_4 t170 _ A32.out).mono ?_); rintro e w34 ⟨rfl, hb⟩; refine ⟨_, rfl, ?_⟩; have n0_ := Aside0.mk (blk_below (g := gb165) (o := .cells #[.int .i64 a0_0, .int .u64 a0_1, .int .u64 a0_2, .int .u64 a0_3, .string a0_4] 26 (0, 0)) (by (with_reducible repeat (first | refine blk_drewN ?_ _ | refine blk_drew ?_ | refine blk_alloc ?_ _)); exact BK165.out) hb); have n1_ := Aside0.mk (below_step (by repeat (first | (with_reducible first | exact HB.out | apply below_alloc | apply pw_below_drewN | apply below_drew1 | refine below_set ?_ GE165.out) | exact HB.out)) hb); clear BK165; clear HB; have BK165 := n0_; have HB := n1_; clear n0_ n1_; (try clear hb); (try clear hb2); (try clear hk); (try clear hi)))
              go_ret
              exact ⟨by first | rfl | (simp [errW_none, errW_some] <;> rfl) | (simp [*, errW_none, errW_some] <;> rfl), by repeat (first | (with_reducible first | exact HB.out | apply below_alloc | apply pw_below_drewN | apply below_drew1 | refine below_set ?_ GE165.out) | exact HB.out)⟩
             ·rw [if_neg c31] at H
              have c31b0 : (a0_0 == 12) = false := beq_eq_false_iff_ne.mpr c31
              have c31b1 : (a0_0 != 12) = true := bne_iff_ne.mpr c31
              by_cases c35 : a0_0 = 13
              ·rw [if_pos c35] at H
               have c35b0 : (a0_0 == 13) = true := beq_iff_eq.mpr c35
               have c35b1 : (a0_0 != 13) = false := bne_eq_false_iff_eq.mpr c35
               clear c35
               replace H := Option.bind_eq_some_iff.mp H
               obtain ⟨t171, A360, H⟩ := H
               replace H : (some t171) = some r := H
               have A36 := Aside0.mk A360
               clear A360
               obtain rfl := Option.some.inj H
               have hcz37_0 : wc.cell? ⟨gb165, 0, none⟩ = some (.int .i64 a0_0) := (blk_cell BK165.out 0).trans rfl
               have hcz37_1 : wc.cell? ⟨gb165, 1, none⟩ = some (.int .u64 a0_1) := (blk_cell BK165.out 1).trans rfl
               have hcz37_2 : wc.cell? ⟨gb165, 2, none⟩ = some (.int .u64 a0_2) := (blk_cell BK165.out 2).trans rfl
               have hcz37_3 : wc.cell? ⟨gb165, 3, none⟩ = some (.int .u64 a0_3) := (blk_cell BK165.out 3).trans rfl
               have hcz37_4 : wc.cell? ⟨gb165, 4, none⟩ = some (.string a0_4) := (blk_cell BK165.out 4).trans rfl
               have hfz37_0 := blk_frozen BK165.out 0
               have hfz37_1 := blk_frozen BK165.out 1
               have hfz37_2 := blk_frozen BK165.out 2
               have hfz37_3 := blk_frozen BK165.out 3
               have hfz37_4 := blk_frozen BK165.out 4
               go_wp2_with (first | ((with_reducible refine gate_callee (f := 47) rfl ?_); refine goesL_ (some 32) rfl rfl Tryd.func47 (by kernel_rfl) rfl #[.agg #[.int .i64 a0_0, .int .u64 a0_1, .int .u64 a0_2, .int .u64 a0_3, .string a0_4]] rfl (by (try simp only [List.map_toArray, List.map_cons, List.map_nil]); first | done | rfl | (simp only [tb_wrap8]; done) | (simp only [tb_wrap8]; rfl) | (simp only [List.length_drop, List.length_take]; rfl)) ?_; (with_reducible refine (culletlaw01_texts.calls a0_0 a0_1 a0_2 a0_3 a0_4 t171 _ A36.out).mono ?_); rintro e w38 ⟨rfl, hb⟩; refine ⟨_, rfl, ?_⟩; have n0_ := Aside0.mk (blk_below (g := gb165) (o := .cells #[.int .i64 a0_0, .int .u64 a0_1, .int .u64 a0_2, .int .u64 a0_3, .string a0_4] 26 (0, 0)) (by (with_reducible repeat (first | refine blk_drewN ?_ _ | refine blk_drew ?_ | refine blk_alloc ?_ _)); exact BK165.out) hb); have n1_ := Aside0.mk (below_step (by repeat (first | (with_reducible first | exact HB.out | apply below_alloc | apply pw_below_drewN | apply below_drew1 | refine below_set ?_ GE165.out) | exact HB.out)) hb); clear BK165; clear HB; have BK165 := n0_; have HB := n1_; clear n0_ n1_; (try clear hb); (try clear hb2); (try clear hk); (try clear hi)))
               go_ret
               exact ⟨by first | rfl | (simp [errW_none, errW_some] <;> rfl) | (simp [*, errW_none, errW_some] <;> rfl), by repeat (first | (with_reducible first | exact HB.out | apply below_alloc | apply pw_below_drewN | apply below_drew1 | refine below_set ?_ GE165.out) | exact HB.out)⟩
              ·rw [if_neg c35] at H
               have c35b0 : (a0_0 == 13) = false := beq_eq_false_iff_ne.mpr c35
               have c35b1 : (a0_0 != 13) = true := bne_iff_ne.mpr c35
               obtain rfl := Option.some.inj H
               go_wp2
               go_ret
               exact ⟨by first | rfl | (simp [errW_none, errW_some] <;> rfl) | (simp [*, errW_none, errW_some] <;> rfl), by repeat (first | (with_reducible first | exact HB.out | apply below_alloc | apply pw_below_drewN | apply below_drew1 | refine below_set ?_ GE165.out) | exact HB.out)⟩

end Go.Proofs.YthldahaimcdejaaDoor.L
