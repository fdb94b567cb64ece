import Derived.Test.YtidogckochpbgaaQx0
import Derived.Test.YtidogckochpbgaaQx2
import Derived.Test.YtidogckochpbgaaQx4
import Derived.Test.YtidogckochpbgaaQx5
-- Printed for this claim by mp.py, a program of its prover, through the kit's print. Lean checks it.
namespace Go.Proofs.Ytidogckochpbgaa.Q
open Go.RowKit Go.Proofs.YtidogckochpbgaaW.PrintWords Go.Proofs.YtidogckochpbgaaW.PrintLast Go.Proofs.YtidogckochpbgaaW.PrintMore Go.Proofs.Ytidogckochpbgaa.A Go.Proofs.Ytidogckochpbgaa.E
attribute [local go_sem] max2_int min2_int max_two min_two max_three min_three max_four min_four   -- for this text's walks alone
set_option linter.unusedVariables false
set_option linter.unusedSimpArgs false

/-! ### culletlaw10_all: function 35 -/
mutual
def culletlaw10_all.l0 : Nat → Int → Int → List (S57) → Int → Int → Option (Bool)
 | 0, _, _, _, _, _ => none
 | k + 1, x1, x2, x10, x11, x12 => if x12 < x11 then (if 0 ≤ x12 then (if x12 < (x10.length : Int) then (if ((rd_T57 x10 x12).f0) < x1 then (culletlaw10_all.j1 k x1 x2 x10 x11 x12 true ((rd_T57 x10 x12).f0) ((rd_T57 x10 x12).f1) ((rd_T57 x10 x12).f2) ((rd_T57 x10 x12).f3) ((rd_T57 x10 x12).f4) ((rd_T57 x10 x12).f5) ((rd_T57 x10 x12).f6) ((rd_T57 x10 x12).f7)) else (if ((rd_T57 x10 x12).f0) > x2 then (culletlaw10_all.j1 k x1 x2 x10 x11 x12 true ((rd_T57 x10 x12).f0) ((rd_T57 x10 x12).f1) ((rd_T57 x10 x12).f2) ((rd_T57 x10 x12).f3) ((rd_T57 x10 x12).f4) ((rd_T57 x10 x12).f5) ((rd_T57 x10 x12).f6) ((rd_T57 x10 x12).f7)) else ((culletlaw10_huge.f k ((rd_T57 x10 x12).f0) ((rd_T57 x10 x12).f1) ((rd_T57 x10 x12).f2) ((rd_T57 x10 x12).f3) ((rd_T57 x10 x12).f4) ((rd_T57 x10 x12).f5) ((rd_T57 x10 x12).f6) ((rd_T57 x10 x12).f7)).bind fun t222 => (culletlaw10_all.j1 k x1 x2 x10 x11 x12 t222 ((rd_T57 x10 x12).f0) ((rd_T57 x10 x12).f1) ((rd_T57 x10 x12).f2) ((rd_T57 x10 x12).f3) ((rd_T57 x10 x12).f4) ((rd_T57 x10 x12).f5) ((rd_T57 x10 x12).f6) ((rd_T57 x10 x12).f7))))) else (none)) else (none)) else (some true)
def culletlaw10_all.j1 : Nat → Int → Int → List (S57) → Int → Int → Bool → Int → List (List Int) → List (List Int) → Int → Int → Int → Int → List Int → Option (Bool)
 | 0, _, _, _, _, _, _, _, _, _, _, _, _, _, _ => none
 | k + 1, x1, x2, x10, x11, x12, x29, x222000, x222001, x222002, x222003, x222004, x222005, x222006, x222007 => if x29 = true then (culletlaw10_all.l0 k x1 x2 x10 x11 (wrap64 (x12 + 1))) else (if x222000 ≤ 4 then ((culletlaw10_makes.f x222000 x222001 x222002 x222003 x222004 x222005 x222006 x222007).bind fun t223 => (if t223 = true then (culletlaw10_all.l0 k x1 x2 x10 x11 (wrap64 (x12 + 1))) else (some false))) else (if x222000 ≤ 9 then ((culletlaw10_parts.f k x222000 x222001 x222002 x222003 x222004 x222005 x222006 x222007).bind fun t224 => (if t224 = true then (culletlaw10_all.l0 k x1 x2 x10 x11 (wrap64 (x12 + 1))) else (some false))) else ((culletlaw10_solves.f x222000 x222001 x222002 x222003 x222004 x222005 x222006 x222007).bind fun t225 => (if t225 = true then (culletlaw10_all.l0 k x1 x2 x10 x11 (wrap64 (x12 + 1))) else (some false)))))
end
def culletlaw10_all.f (k : Nat) (l0 : List (S57)) (a1 : Int) (a2 : Int) : Option (Bool) := culletlaw10_all.l0 k a1 a2 l0 (l0.length : Int) 0
theorem culletlaw10_all.mono_l : ∀ k, (∀ y0 y1 y2 y3 y4, LeO (culletlaw10_all.l0 k y0 y1 y2 y3 y4) (culletlaw10_all.l0 (k + 1) y0 y1 y2 y3 y4)) ∧ (∀ y0 y1 y2 y3 y4 y5 y6 y7 y8 y9 y10 y11 y12 y13, LeO (culletlaw10_all.j1 k y0 y1 y2 y3 y4 y5 y6 y7 y8 y9 y10 y11 y12 y13) (culletlaw10_all.j1 (k + 1) y0 y1 y2 y3 y4 y5 y6 y7 y8 y9 y10 y11 y12 y13))
 | 0 => ⟨fun _ _ _ _ _ r h => by simp [culletlaw10_all.l0] at h, fun _ _ _ _ _ _ _ _ _ _ _ _ _ _ r h => by simp [culletlaw10_all.j1] at h⟩
 | k + 1 => by
  obtain ⟨ih0, ih1⟩ := culletlaw10_all.mono_l k
  refine ⟨?_, ?_⟩
  ·intro y0 y1 y2 y3 y4
   unfold culletlaw10_all.l0
   repeat' first
   | (with_reducible exact ih0 _ _ _ _ _)
   | (with_reducible exact ih1 _ _ _ _ _ _ _ _ _ _ _ _ _ _)
   | (with_reducible exact culletlaw10_huge.mono _ _ _ _ _ _ _ _ _)
   | (with_reducible exact culletlaw10_parts.mono _ _ _ _ _ _ _ _ _)
   | (with_reducible exact LeO.refl _)
   | (with_reducible exact LeO.none _)
   | (with_reducible refine LeO.ite ?_ ?_)
   | (with_reducible refine LeO.bind ?_ (fun _ => ?_))
   | exact ih0 _ _ _ _ _
   | exact ih1 _ _ _ _ _ _ _ _ _ _ _ _ _ _
   | exact culletlaw10_huge.mono _ _ _ _ _ _ _ _ _
   | exact culletlaw10_parts.mono _ _ _ _ _ _ _ _ _
   | exact LeO.none _
   | refine LeO.ite ?_ ?_
   | refine LeO.bind ?_ (fun _ => ?_)
  ·intro y0 y1 y2 y3 y4 y5 y6 y7 y8 y9 y10 y11 y12 y13
   unfold culletlaw10_all.j1
   repeat' first
   | (with_reducible exact ih0 _ _ _ _ _)
   | (with_reducible exact ih1 _ _ _ _ _ _ _ _ _ _ _ _ _ _)
   | (with_reducible exact culletlaw10_huge.mono _ _ _ _ _ _ _ _ _)
   | (with_reducible exact culletlaw10_parts.mono _ _ _ _ _ _ _ _ _)
   | (with_reducible exact LeO.refl _)
   | (with_reducible exact LeO.none _)
   | (with_reducible refine LeO.ite ?_ ?_)
   | (with_reducible refine LeO.bind ?_ (fun _ => ?_))
   | exact ih0 _ _ _ _ _
   | exact ih1 _ _ _ _ _ _ _ _ _ _ _ _ _ _
   | exact culletlaw10_huge.mono _ _ _ _ _ _ _ _ _
   | exact culletlaw10_parts.mono _ _ _ _ _ _ _ _ _
   | exact LeO.none _
   | refine LeO.ite ?_ ?_
   | refine LeO.bind ?_ (fun _ => ?_)
theorem culletlaw10_all.mono : ∀ a0 a1 a2 k, LeO (culletlaw10_all.f k a0 a1 a2) (culletlaw10_all.f (k + 1) a0 a1 a2) := by
 intro a0 a1 a2 k
 obtain ⟨ih0, ih1⟩ := culletlaw10_all.mono_l k
 unfold culletlaw10_all.f
 repeat' first
   | (with_reducible exact ih0 _ _ _ _ _)
   | (with_reducible exact ih1 _ _ _ _ _ _ _ _ _ _ _ _ _ _)
   | (with_reducible exact culletlaw10_huge.mono _ _ _ _ _ _ _ _ _)
   | (with_reducible exact culletlaw10_parts.mono _ _ _ _ _ _ _ _ _)
   | (with_reducible exact LeO.refl _)
   | (with_reducible exact LeO.none _)
   | (with_reducible refine LeO.ite ?_ ?_)
   | (with_reducible refine LeO.bind ?_ (fun _ => ?_))
   | exact ih0 _ _ _ _ _
   | exact ih1 _ _ _ _ _ _ _ _ _ _ _ _ _ _
   | exact culletlaw10_huge.mono _ _ _ _ _ _ _ _ _
   | exact culletlaw10_parts.mono _ _ _ _ _ _ _ _ _
   | exact LeO.none _
   | refine LeO.ite ?_ ?_
   | refine LeO.bind ?_ (fun _ => ?_)
set_option maxHeartbeats 8000000 in
set_option maxRecDepth 100000 in
theorem culletlaw10_all.calls (k : Nat) (A0 : Option Addr) (c0 : Nat) (l0 : List (S57)) (a1 : Int) (a2 : Int) (r : Bool) (w : World) (hr0 : Kd.C k57 w A0 l0.length l0) (hc0 : l0.length ≤ c0) (h : culletlaw10_all.f k l0 a1 a2 = some r) :
  Calls Try.prog 35 #[.slice A0 l0.length c0, .int .i64 a1, .int .i64 a2] w fun e w' => e = .returned (.bool r) ∧ Below w.heap.size w w' := by
 have hu57 := Try.underlying57
 have HR0 := Aside0.mk hr0
 have HC0 := Aside0.mk hc0
 clear hr0 hc0
 have HB := Aside0.mk (Below.refl w.heap.size w)
 have H : (culletlaw10_all.l0 k a1 a2 l0 (l0.length : Int) 0) = some r := h
 clear h
 have H' := Aside0.mk H
 clear H
 go_enter Try.func35, Try.ntmps35
 go_wp2
 go_loopg [12] k (fun kq v12 w' => ∃ (x12_1 : Int), v12 = .int .i64 x12_1 ∧ Aside0 (culletlaw10_all.l0 kq a1 a2 l0 (l0.length : Int) x12_1 = some r) ∧ Aside0 (kq ≤ k) ∧ Aside0 (Below w.heap.size w w'))
 case atStart => exact ⟨(0), (by first | rfl | (simp; done) | (simp [*]; done)), H', ⟨Nat.le_refl _⟩, ⟨by repeat (first | (with_reducible first | exact HB.out | apply below_alloc | apply pw_below_drewN | apply below_drew1) | exact HB.out)⟩⟩
 case round =>
  clear H'
  try clear p2
  try clear c3
  obtain ⟨x12_1, rfl, HA, HK1, HB⟩ := hrel
  cases gk with
  | zero => exact absurd HA.out (by simp [culletlaw10_all.l0])
  | succ k1 =>
   have H := HA.out
   clear HA
   simp only [culletlaw10_all.l0] at H
   by_cases c4 : x12_1 < (l0.length : Int)
   ·rw [if_pos c4] at H
    have c4b0 : decide (x12_1 < (l0.length : Int)) = true := decide_eq_true c4
    clear c4
    by_cases c5 : 0 ≤ x12_1
    ·rw [if_pos c5] at H
     have c5b0 : decide (0 ≤ x12_1) = true := decide_eq_true c5
     clear c5
     by_cases c6 : x12_1 < (l0.length : Int)
     ·rw [if_pos c6] at H
      have c6b0 : decide (x12_1 < (l0.length : Int)) = true := decide_eq_true c6
      clear c6
      have HC7 := Aside0.mk H
      clear H
      have p220 : 0 ≤ (x12_1 : Int) := of_decide_eq_true (by first | (with_reducible assumption) | assumption)
      have q220 : x12_1 < (l0.length : Int) := of_decide_eq_true (by first | (with_reducible assumption) | assumption)
      obtain ⟨ad220, A220_1, c220_1, A220_2, c220_2, A220_7, c220_7, e220, hx220_0, hx220_1, hx220_2, hx220_3, hx220_4, hx220_5, hx220_6, hx220_7, hl220_1, hi220_1, hl220_2, hi220_2, hl220_7, hi220_7⟩ := at_T57 HR0.out x12_1 p220 q220
      cases e220
      replace hx220_0 := (HB.out.cell (World.block_lt_of_cell? w _ hx220_0)).trans hx220_0
      replace hx220_1 := (HB.out.cell (World.block_lt_of_cell? w _ hx220_1)).trans hx220_1
      replace hx220_2 := (HB.out.cell (World.block_lt_of_cell? w _ hx220_2)).trans hx220_2
      replace hx220_3 := (HB.out.cell (World.block_lt_of_cell? w _ hx220_3)).trans hx220_3
      replace hx220_4 := (HB.out.cell (World.block_lt_of_cell? w _ hx220_4)).trans hx220_4
      replace hx220_5 := (HB.out.cell (World.block_lt_of_cell? w _ hx220_5)).trans hx220_5
      replace hx220_6 := (HB.out.cell (World.block_lt_of_cell? w _ hx220_6)).trans hx220_6
      replace hx220_7 := (HB.out.cell (World.block_lt_of_cell? w _ hx220_7)).trans hx220_7
      have HR220_1 := Aside0.mk hi220_1
      have HC220_1 := Aside0.mk hl220_1
      clear hi220_1 hl220_1
      have HR220_2 := Aside0.mk hi220_2
      have HC220_2 := Aside0.mk hl220_2
      clear hi220_2 hl220_2
      have HR220_7 := Aside0.mk hi220_7
      have HC220_7 := Aside0.mk hl220_7
      clear hi220_7 hl220_7
      replace p220 := eq_true p220
      replace q220 := eq_true q220
      go_upto_region 4 with (first | ((with_reducible refine gate_dst (N := 8) rfl ?_); refine box_event ?hg (N := 8) ?hd (cs := #[.int .i64 0, .slice none 0 0, .slice none 0 0, .int .i64 0, .int .i64 0, .int .i64 0, .int .i64 0, .slice none 0 0]) (t := 57) ?hr ?_; (case hd => rfl); (case hg => rfl); (case hr => first | (go_simp; done) | (go_simp; rfl)); intro gb221 hg w8 hbox hb; have n0_ := Aside0.mk (below_step (by repeat (first | (with_reducible first | exact HB.out | apply below_alloc | apply pw_below_drewN | apply below_drew1) | exact HB.out)) hb); have n1_ := Aside0.mk (hbox); have n2_ := Aside0.mk ((by rw [hg]; exact (below_size (by repeat (first | (with_reducible first | exact HB.out | apply below_alloc | apply pw_below_drewN | apply below_drew1) | exact HB.out))) : w.heap.size ≤ gb221)); have n3_ := Aside0.mk ((by rw [hg]; exact (below_size (by repeat (first | (with_reducible first | exact HB.out | apply below_alloc | apply pw_below_drewN | apply below_drew1) | exact HB.out))) : w.heap.size ≤ gb221)); clear HB; have HB := n0_; have BK221 := n1_; have GW221 := n2_; have GE221 := n3_; clear n0_ n1_ n2_ n3_; clear hb hbox hg; have hcz9_0 : w8.cell? ⟨gb221, 0, none⟩ = some (.int .i64 0) := (blk_cell BK221.out 0).trans rfl; have hcz9_1 : w8.cell? ⟨gb221, 1, none⟩ = some (.slice none 0 0) := (blk_cell BK221.out 1).trans rfl; have hcz9_2 : w8.cell? ⟨gb221, 2, none⟩ = some (.slice none 0 0) := (blk_cell BK221.out 2).trans rfl; have hcz9_3 : w8.cell? ⟨gb221, 3, none⟩ = some (.int .i64 0) := (blk_cell BK221.out 3).trans rfl; have hcz9_4 : w8.cell? ⟨gb221, 4, none⟩ = some (.int .i64 0) := (blk_cell BK221.out 4).trans rfl; have hcz9_5 : w8.cell? ⟨gb221, 5, none⟩ = some (.int .i64 0) := (blk_cell BK221.out 5).trans rfl; have hcz9_6 : w8.cell? ⟨gb221, 6, none⟩ = some (.int .i64 0) := (blk_cell BK221.out 6).trans rfl; have hcz9_7 : w8.cell? ⟨gb221, 7, none⟩ = some (.slice none 0 0) := (blk_cell BK221.out 7).trans rfl; have hfz9_0 := blk_frozen BK221.out 0; have hfz9_1 := blk_frozen BK221.out 1; have hfz9_2 := blk_frozen BK221.out 2; have hfz9_3 := blk_frozen BK221.out 3; have hfz9_4 := blk_frozen BK221.out 4; have hfz9_5 := blk_frozen BK221.out 5; have hfz9_6 := blk_frozen BK221.out 6; have hfz9_7 := blk_frozen BK221.out 7))
      (try simp only [Act.put, List.setIfInBounds_toArray, List.set_cons_zero, List.set_cons_succ])
      go_cut [29] (fun v29 wc => ∃ (kq : Nat) (x29_6 : Bool), v29 = .bool x29_6 ∧ Aside0 (culletlaw10_all.j1 kq a1 a2 l0 (l0.length : Int) x12_1 x29_6 ((rd_T57 l0 x12_1).f0) ((rd_T57 l0 x12_1).f1) ((rd_T57 l0 x12_1).f2) ((rd_T57 l0 x12_1).f3) ((rd_T57 l0 x12_1).f4) ((rd_T57 l0 x12_1).f5) ((rd_T57 l0 x12_1).f6) ((rd_T57 l0 x12_1).f7) = some r) ∧ Aside0 (kq ≤ k1) ∧ Aside0 (wc.heap[gb221]? = some (.cells #[.int .i64 ((rd_T57 l0 x12_1).f0), (.slice A220_1 ((rd_T57 l0 x12_1).f1).length c220_1), (.slice A220_2 ((rd_T57 l0 x12_1).f2).length c220_2), .int .i64 ((rd_T57 l0 x12_1).f3), .int .i64 ((rd_T57 l0 x12_1).f4), .int .i64 ((rd_T57 l0 x12_1).f5), .int .i64 ((rd_T57 l0 x12_1).f6), (.slice A220_7 ((rd_T57 l0 x12_1).f7).length c220_7)] 57 (0, 0))) ∧ Aside0 (Below w.heap.size w wc))
      case first =>
       have H := HC7.out
       clear HC7
       by_cases c10 : ((rd_T57 l0 x12_1).f0) < a1
       ·rw [if_pos c10] at H
        have c10b0 : decide (((rd_T57 l0 x12_1).f0) < a1) = true := decide_eq_true c10
        clear c10
        (first | rw [c10b0] | (simp only [i64_w, i32_w]; rw [c10b0]) | skip)
        have H' := Aside0.mk H
        clear H
        have hcz11_0 : w8.cell? ⟨gb221, 0, none⟩ = some (.int .i64 0) := (blk_cell BK221.out 0).trans rfl
        have hcz11_1 : w8.cell? ⟨gb221, 1, none⟩ = some (.slice none 0 0) := (blk_cell BK221.out 1).trans rfl
        have hcz11_2 : w8.cell? ⟨gb221, 2, none⟩ = some (.slice none 0 0) := (blk_cell BK221.out 2).trans rfl
        have hcz11_3 : w8.cell? ⟨gb221, 3, none⟩ = some (.int .i64 0) := (blk_cell BK221.out 3).trans rfl
        have hcz11_4 : w8.cell? ⟨gb221, 4, none⟩ = some (.int .i64 0) := (blk_cell BK221.out 4).trans rfl
        have hcz11_5 : w8.cell? ⟨gb221, 5, none⟩ = some (.int .i64 0) := (blk_cell BK221.out 5).trans rfl
        have hcz11_6 : w8.cell? ⟨gb221, 6, none⟩ = some (.int .i64 0) := (blk_cell BK221.out 6).trans rfl
        have hcz11_7 : w8.cell? ⟨gb221, 7, none⟩ = some (.slice none 0 0) := (blk_cell BK221.out 7).trans rfl
        have hfz11_0 := blk_frozen BK221.out 0
        have hfz11_1 := blk_frozen BK221.out 1
        have hfz11_2 := blk_frozen BK221.out 2
        have hfz11_3 := blk_frozen BK221.out 3
        have hfz11_4 := blk_frozen BK221.out 4
        have hfz11_5 := blk_frozen BK221.out 5
        have hfz11_6 := blk_frozen BK221.out 6
        have hfz11_7 := blk_frozen BK221.out 7
        go_wp2
        go_meet
        case rel => exact ⟨_, (true), (by first | rfl | (simp; done) | (simp [*]; done)), H', ⟨by have := HK1.out; first | omega | exact Nat.le_refl _⟩, ⟨by (with_reducible repeat (first | refine blk_drewN ?_ _ | refine blk_drew ?_ | refine blk_alloc ?_ _)); refine blk_put (cs := #[.int .i64 ((rd_T57 l0 x12_1).f0), .slice A220_1 ((rd_T57 l0 x12_1).f1).length c220_1, .slice A220_2 ((rd_T57 l0 x12_1).f2).length c220_2, .int .i64 ((rd_T57 l0 x12_1).f3), .int .i64 ((rd_T57 l0 x12_1).f4), .int .i64 ((rd_T57 l0 x12_1).f5), .int .i64 ((rd_T57 l0 x12_1).f6), .slice none 0 0]) ?_ 7 _ rfl; (with_reducible repeat (first | refine blk_drewN ?_ _ | refine blk_drew ?_ | refine blk_alloc ?_ _)); refine blk_put (cs := #[.int .i64 ((rd_T57 l0 x12_1).f0), .slice A220_1 ((rd_T57 l0 x12_1).f1).length c220_1, .slice A220_2 ((rd_T57 l0 x12_1).f2).length c220_2, .int .i64 ((rd_T57 l0 x12_1).f3), .int .i64 ((rd_T57 l0 x12_1).f4), .int .i64 ((rd_T57 l0 x12_1).f5), .int .i64 0, .slice none 0 0]) ?_ 6 _ rfl; (with_reducible repeat (first | refine blk_drewN ?_ _ | refine blk_drew ?_ | refine blk_alloc ?_ _)); refine blk_put (cs := #[.int .i64 ((rd_T57 l0 x12_1).f0), .slice A220_1 ((rd_T57 l0 x12_1).f1).length c220_1, .slice A220_2 ((rd_T57 l0 x12_1).f2).length c220_2, .int .i64 ((rd_T57 l0 x12_1).f3), .int .i64 ((rd_T57 l0 x12_1).f4), .int .i64 0, .int .i64 0, .slice none 0 0]) ?_ 5 _ rfl; (with_reducible repeat (first | refine blk_drewN ?_ _ | refine blk_drew ?_ | refine blk_alloc ?_ _)); refine blk_put (cs := #[.int .i64 ((rd_T57 l0 x12_1).f0), .slice A220_1 ((rd_T57 l0 x12_1).f1).length c220_1, .slice A220_2 ((rd_T57 l0 x12_1).f2).length c220_2, .int .i64 ((rd_T57 l0 x12_1).f3), .int .i64 0, .int .i64 0, .int .i64 0, .slice none 0 0]) ?_ 4 _ rfl; (with_reducible repeat (first | refine blk_drewN ?_ _ | refine blk_drew ?_ | refine blk_alloc ?_ _)); refine blk_put (cs := #[.int .i64 ((rd_T57 l0 x12_1).f0), .slice A220_1 ((rd_T57 l0 x12_1).f1).length c220_1, .slice A220_2 ((rd_T57 l0 x12_1).f2).length c220_2, .int .i64 0, .int .i64 0, .int .i64 0, .int .i64 0, .slice none 0 0]) ?_ 3 _ rfl; (with_reducible repeat (first | refine blk_drewN ?_ _ | refine blk_drew ?_ | refine blk_alloc ?_ _)); refine blk_put (cs := #[.int .i64 ((rd_T57 l0 x12_1).f0), .slice A220_1 ((rd_T57 l0 x12_1).f1).length c220_1, .slice none 0 0, .int .i64 0, .int .i64 0, .int .i64 0, .int .i64 0, .slice none 0 0]) ?_ 2 _ rfl; (with_reducible repeat (first | refine blk_drewN ?_ _ | refine blk_drew ?_ | refine blk_alloc ?_ _)); refine blk_put (cs := #[.int .i64 ((rd_T57 l0 x12_1).f0), .slice none 0 0, .slice none 0 0, .int .i64 0, .int .i64 0, .int .i64 0, .int .i64 0, .slice none 0 0]) ?_ 1 _ rfl; (with_reducible repeat (first | refine blk_drewN ?_ _ | refine blk_drew ?_ | refine blk_alloc ?_ _)); refine blk_put (cs := #[.int .i64 0, .slice none 0 0, .slice none 0 0, .int .i64 0, .int .i64 0, .int .i64 0, .int .i64 0, .slice none 0 0]) ?_ 0 _ rfl; (with_reducible repeat (first | refine blk_drewN ?_ _ | refine blk_drew ?_ | refine blk_alloc ?_ _)); exact BK221.out⟩, ⟨by repeat (first | (with_reducible first | exact HB.out | apply below_alloc | apply pw_below_drewN | apply below_drew1 | refine below_set ?_ GE221.out) | exact HB.out)⟩⟩
       ·rw [if_neg c10] at H
        have c10b0 : decide (((rd_T57 l0 x12_1).f0) < a1) = false := decide_eq_false c10
        clear c10
        (first | rw [c10b0] | (simp only [i64_w, i32_w]; rw [c10b0]) | skip)
        by_cases c12 : ((rd_T57 l0 x12_1).f0) > a2
        ·rw [if_pos c12] at H
         have c12b0 : decide (a2 < ((rd_T57 l0 x12_1).f0)) = true := decide_eq_true c12
         clear c12
         have H' := Aside0.mk H
         clear H
         have hcz13_0 : w8.cell? ⟨gb221, 0, none⟩ = some (.int .i64 0) := (blk_cell BK221.out 0).trans rfl
         have hcz13_1 : w8.cell? ⟨gb221, 1, none⟩ = some (.slice none 0 0) := (blk_cell BK221.out 1).trans rfl
         have hcz13_2 : w8.cell? ⟨gb221, 2, none⟩ = some (.slice none 0 0) := (blk_cell BK221.out 2).trans rfl
         have hcz13_3 : w8.cell? ⟨gb221, 3, none⟩ = some (.int .i64 0) := (blk_cell BK221.out 3).trans rfl
         have hcz13_4 : w8.cell? ⟨gb221, 4, none⟩ = some (.int .i64 0) := (blk_cell BK221.out 4).trans rfl
         have hcz13_5 : w8.cell? ⟨gb221, 5, none⟩ = some (.int .i64 0) := (blk_cell BK221.out 5).trans rfl
         have hcz13_6 : w8.cell? ⟨gb221, 6, none⟩ = some (.int .i64 0) := (blk_cell BK221.out 6).trans rfl
         have hcz13_7 : w8.cell? ⟨gb221, 7, none⟩ = some (.slice none 0 0) := (blk_cell BK221.out 7).trans rfl
         have hfz13_0 := blk_frozen BK221.out 0
         have hfz13_1 := blk_frozen BK221.out 1
         have hfz13_2 := blk_frozen BK221.out 2
         have hfz13_3 := blk_frozen BK221.out 3
         have hfz13_4 := blk_frozen BK221.out 4
         have hfz13_5 := blk_frozen BK221.out 5
         have hfz13_6 := blk_frozen BK221.out 6
         have hfz13_7 := blk_frozen BK221.out 7
         go_wp2
         go_meet
         case rel => exact ⟨_, (true), (by first | rfl | (simp; done) | (simp [*]; done)), H', ⟨by have := HK1.out; first | omega | exact Nat.le_refl _⟩, ⟨by (with_reducible repeat (first | refine blk_drewN ?_ _ | refine blk_drew ?_ | refine blk_alloc ?_ _)); refine blk_put (cs := #[.int .i64 ((rd_T57 l0 x12_1).f0), .slice A220_1 ((rd_T57 l0 x12_1).f1).length c220_1, .slice A220_2 ((rd_T57 l0 x12_1).f2).length c220_2, .int .i64 ((rd_T57 l0 x12_1).f3), .int .i64 ((rd_T57 l0 x12_1).f4), .int .i64 ((rd_T57 l0 x12_1).f5), .int .i64 ((rd_T57 l0 x12_1).f6), .slice none 0 0]) ?_ 7 _ rfl; (with_reducible repeat (first | refine blk_drewN ?_ _ | refine blk_drew ?_ | refine blk_alloc ?_ _)); refine blk_put (cs := #[.int .i64 ((rd_T57 l0 x12_1).f0), .slice A220_1 ((rd_T57 l0 x12_1).f1).length c220_1, .slice A220_2 ((rd_T57 l0 x12_1).f2).length c220_2, .int .i64 ((rd_T57 l0 x12_1).f3), .int .i64 ((rd_T57 l0 x12_1).f4), .int .i64 ((rd_T57 l0 x12_1).f5), .int .i64 0, .slice none 0 0]) ?_ 6 _ rfl; (with_reducible repeat (first | refine blk_drewN ?_ _ | refine blk_drew ?_ | refine blk_alloc ?_ _)); refine blk_put (cs := #[.int .i64 ((rd_T57 l0 x12_1).f0), .slice A220_1 ((rd_T57 l0 x12_1).f1).length c220_1, .slice A220_2 ((rd_T57 l0 x12_1).f2).length c220_2, .int .i64 ((rd_T57 l0 x12_1).f3), .int .i64 ((rd_T57 l0 x12_1).f4), .int .i64 0, .int .i64 0, .slice none 0 0]) ?_ 5 _ rfl; (with_reducible repeat (first | refine blk_drewN ?_ _ | refine blk_drew ?_ | refine blk_alloc ?_ _)); refine blk_put (cs := #[.int .i64 ((rd_T57 l0 x12_1).f0), .slice A220_1 ((rd_T57 l0 x12_1).f1).length c220_1, .slice A220_2 ((rd_T57 l0 x12_1).f2).length c220_2, .int .i64 ((rd_T57 l0 x12_1).f3), .int .i64 0, .int .i64 0, .int .i64 0, .slice none 0 0]) ?_ 4 _ rfl; (with_reducible repeat (first | refine blk_drewN ?_ _ | refine blk_drew ?_ | refine blk_alloc ?_ _)); refine blk_put (cs := #[.int .i64 ((rd_T57 l0 x12_1).f0), .slice A220_1 ((rd_T57 l0 x12_1).f1).length c220_1, .slice A220_2 ((rd_T57 l0 x12_1).f2).length c220_2, .int .i64 0, .int .i64 0, .int .i64 0, .int .i64 0, .slice none 0 0]) ?_ 3 _ rfl; (with_reducible repeat (first | refine blk_drewN ?_ _ | refine blk_drew ?_ | refine blk_alloc ?_ _)); refine blk_put (cs := #[.int .i64 ((rd_T57 l0 x12_1).f0), .slice A220_1 ((rd_T57 l0 x12_1).f1).length c220_1, .slice none 0 0, .int .i64 0, .int .i64 0, .int .i64 0, .int .i64 0, .slice none 0 0]) ?_ 2 _ rfl; (with_reducible repeat (first | refine blk_drewN ?_ _ | refine blk_drew ?_ | refine blk_alloc ?_ _)); refine blk_put (cs := #[.int .i64 ((rd_T57 l0 x12_1).f0), .slice none 0 0, .slice none 0 0, .int .i64 0, .int .i64 0, .int .i64 0, .int .i64 0, .slice none 0 0]) ?_ 1 _ rfl; (with_reducible repeat (first | refine blk_drewN ?_ _ | refine blk_drew ?_ | refine blk_alloc ?_ _)); refine blk_put (cs := #[.int .i64 0, .slice none 0 0, .slice none 0 0, .int .i64 0, .int .i64 0, .int .i64 0, .int .i64 0, .slice none 0 0]) ?_ 0 _ rfl; (with_reducible repeat (first | refine blk_drewN ?_ _ | refine blk_drew ?_ | refine blk_alloc ?_ _)); exact BK221.out⟩, ⟨by repeat (first | (with_reducible first | exact HB.out | apply below_alloc | apply pw_below_drewN | apply below_drew1 | refine below_set ?_ GE221.out) | exact HB.out)⟩⟩
        ·rw [if_neg c12] at H
         have c12b0 : decide (a2 < ((rd_T57 l0 x12_1).f0)) = false := decide_eq_false c12
         clear c12
         replace H := Option.bind_eq_some_iff.mp H
         obtain ⟨t222, A140, H⟩ := H
         replace H : (culletlaw10_all.j1 k1 a1 a2 l0 (l0.length : Int) x12_1 t222 ((rd_T57 l0 x12_1).f0) ((rd_T57 l0 x12_1).f1) ((rd_T57 l0 x12_1).f2) ((rd_T57 l0 x12_1).f3) ((rd_T57 l0 x12_1).f4) ((rd_T57 l0 x12_1).f5) ((rd_T57 l0 x12_1).f6) ((rd_T57 l0 x12_1).f7)) = some r := H
         have A14 := Aside0.mk A140
         clear A140
         have H' := Aside0.mk H
         clear H
         have hcz15_0 : w8.cell? ⟨gb221, 0, none⟩ = some (.int .i64 0) := (blk_cell BK221.out 0).trans rfl
         have hcz15_1 : w8.cell? ⟨gb221, 1, none⟩ = some (.slice none 0 0) := (blk_cell BK221.out 1).trans rfl
         have hcz15_2 : w8.cell? ⟨gb221, 2, none⟩ = some (.slice none 0 0) := (blk_cell BK221.out 2).trans rfl
         have hcz15_3 : w8.cell? ⟨gb221, 3, none⟩ = some (.int .i64 0) := (blk_cell BK221.out 3).trans rfl
         have hcz15_4 : w8.cell? ⟨gb221, 4, none⟩ = some (.int .i64 0) := (blk_cell BK221.out 4).trans rfl
         have hcz15_5 : w8.cell? ⟨gb221, 5, none⟩ = some (.int .i64 0) := (blk_cell BK221.out 5).trans rfl
         have hcz15_6 : w8.cell? ⟨gb221, 6, none⟩ = some (.int .i64 0) := (blk_cell BK221.out 6).trans rfl
         have hcz15_7 : w8.cell? ⟨gb221, 7, none⟩ = some (.slice none 0 0) := (blk_cell BK221.out 7).trans rfl
         have hfz15_0 := blk_frozen BK221.out 0
         have hfz15_1 := blk_frozen BK221.out 1
         have hfz15_2 := blk_frozen BK221.out 2
         have hfz15_3 := blk_frozen BK221.out 3
         have hfz15_4 := blk_frozen BK221.out 4
         have hfz15_5 := blk_frozen BK221.out 5
         have hfz15_6 := blk_frozen BK221.out 6
         have hfz15_7 := blk_frozen BK221.out 7
         go_wp2_with (first | (go_at_call 36; (with_reducible refine (culletlaw10_huge.calls k1 ((rd_T57 l0 x12_1).f0) _ _ ((rd_T57 l0 x12_1).f1) _ _ ((rd_T57 l0 x12_1).f2) ((rd_T57 l0 x12_1).f3) ((rd_T57 l0 x12_1).f4) ((rd_T57 l0 x12_1).f5) ((rd_T57 l0 x12_1).f6) _ _ ((rd_T57 l0 x12_1).f7) t222 _ ?side1 ?side2 ?side3 ?side4 ?side5 ?side6 A14.out).mono ?_); (case side1 => exact Kd.C_below HR220_1.out (by repeat (first | (with_reducible first | exact HB.out | apply below_alloc | apply pw_below_drewN | apply below_drew1 | refine below_set ?_ GE221.out) | exact HB.out))); (case side2 => exact HC220_1.out); (case side3 => exact Kd.C_below HR220_2.out (by repeat (first | (with_reducible first | exact HB.out | apply below_alloc | apply pw_below_drewN | apply below_drew1 | refine below_set ?_ GE221.out) | exact HB.out))); (case side4 => exact HC220_2.out); (case side5 => exact Kd.C_below HR220_7.out (by repeat (first | (with_reducible first | exact HB.out | apply below_alloc | apply pw_below_drewN | apply below_drew1 | refine below_set ?_ GE221.out) | exact HB.out))); (case side6 => exact HC220_7.out); rintro e w16 ⟨rfl, hb⟩; have n0_ := Aside0.mk (blk_below (g := gb221) (o := .cells #[.int .i64 ((rd_T57 l0 x12_1).f0), .slice A220_1 ((rd_T57 l0 x12_1).f1).length c220_1, .slice A220_2 ((rd_T57 l0 x12_1).f2).length c220_2, .int .i64 ((rd_T57 l0 x12_1).f3), .int .i64 ((rd_T57 l0 x12_1).f4), .int .i64 ((rd_T57 l0 x12_1).f5), .int .i64 ((rd_T57 l0 x12_1).f6), .slice A220_7 ((rd_T57 l0 x12_1).f7).length c220_7] 57 (0, 0)) (by (with_reducible repeat (first | refine blk_drewN ?_ _ | refine blk_drew ?_ | refine blk_alloc ?_ _)); refine blk_put (cs := #[.int .i64 ((rd_T57 l0 x12_1).f0), .slice A220_1 ((rd_T57 l0 x12_1).f1).length c220_1, .slice A220_2 ((rd_T57 l0 x12_1).f2).length c220_2, .int .i64 ((rd_T57 l0 x12_1).f3), .int .i64 ((rd_T57 l0 x12_1).f4), .int .i64 ((rd_T57 l0 x12_1).f5), .int .i64 ((rd_T57 l0 x12_1).f6), .slice none 0 0]) ?_ 7 _ rfl; (with_reducible repeat (first | refine blk_drewN ?_ _ | refine blk_drew ?_ | refine blk_alloc ?_ _)); refine blk_put (cs := #[.int .i64 ((rd_T57 l0 x12_1).f0), .slice A220_1 ((rd_T57 l0 x12_1).f1).length c220_1, .slice A220_2 ((rd_T57 l0 x12_1).f2).length c220_2, .int .i64 ((rd_T57 l0 x12_1).f3), .int .i64 ((rd_T57 l0 x12_1).f4), .int .i64 ((rd_T57 l0 x12_1).f5), .int .i64 0, .slice none 0 0]) ?_ 6 _ rfl; (with_reducible repeat (first | refine blk_drewN ?_ _ | refine blk_drew ?_ | refine blk_alloc ?_ _)); refine blk_put (cs := #[.int .i64 ((rd_T57 l0 x12_1).f0), .slice A220_1 ((rd_T57 l0 x12_1).f1).length c220_1, .slice A220_2 ((rd_T57 l0 x12_1).f2).length c220_2, .int .i64 ((rd_T57 l0 x12_1).f3), .int .i64 ((rd_T57 l0 x12_1).f4), .int .i64 0, .int .i64 0, .slice none 0 0]) ?_ 5 _ rfl; (with_reducible repeat (first | refine blk_drewN ?_ _ | refine blk_drew ?_ | refine blk_alloc ?_ _)); refine blk_put (cs := #[.int .i64 ((rd_T57 l0 x12_1).f0), .slice A220_1 ((rd_T57 l0 x12_1).f1).length c220_1, .slice A220_2 ((rd_T57 l0 x12_1).f2).length c220_2, .int .i64 ((rd_T57 l0 x12_1).f3), .int .i64 0, .int .i64 0, .int .i64 0, .slice none 0 0]) ?_ 4 _ rfl; (with_reducible repeat (first | refine blk_drewN ?_ _ | refine blk_drew ?_ | refine blk_alloc ?_ _)); refine blk_put (cs := #[.int .i64 ((rd_T57 l0 x12_1).f0), .slice A220_1 ((rd_T57 l0 x12_1).f1).length c220_1, .slice A220_2 ((rd_T57 l0 x12_1).f2).length c220_2, .int .i64 0, .int .i64 0, .int .i64 0, .int .i64 0, .slice none 0 0]) ?_ 3 _ rfl; (with_reducible repeat (first | refine blk_drewN ?_ _ | refine blk_drew ?_ | refine blk_alloc ?_ _)); refine blk_put (cs := #[.int .i64 ((rd_T57 l0 x12_1).f0), .slice A220_1 ((rd_T57 l0 x12_1).f1).length c220_1, .slice none 0 0, .int .i64 0, .int .i64 0, .int .i64 0, .int .i64 0, .slice none 0 0]) ?_ 2 _ rfl; (with_reducible repeat (first | refine blk_drewN ?_ _ | refine blk_drew ?_ | refine blk_alloc ?_ _)); refine blk_put (cs := #[.int .i64 ((rd_T57 l0 x12_1).f0), .slice none 0 0, .slice none 0 0, .int .i64 0, .int .i64 0, .int .i64 0, .int .i64 0, .slice none 0 0]) ?_ 1 _ rfl; (with_reducible repeat (first | refine blk_drewN ?_ _ | refine blk_drew ?_ | refine blk_alloc ?_ _)); refine blk_put (cs := #[.int .i64 0, .slice none 0 0, .slice none 0 0, .int .i64 0, .int .i64 0, .int .i64 0, .int .i64 0, .slice none 0 0]) ?_ 0 _ rfl; (with_reducible repeat (first | refine blk_drewN ?_ _ | refine blk_drew ?_ | refine blk_alloc ?_ _)); exact BK221.out) hb); have n1_ := Aside0.mk (below_step (by repeat (first | (with_reducible first | exact HB.out | apply below_alloc | apply pw_below_drewN | apply below_drew1 | refine below_set ?_ GE221.out) | exact HB.out)) hb); clear BK221; clear HB; have BK221 := n0_; have HB := n1_; clear n0_ n1_; (try clear hb); (try clear hb2); (try clear hk); (try clear hi)))
         go_meet
         case rel => exact ⟨_, (t222), (by first | rfl | (simp; done) | (simp [*]; done)), H', ⟨by have := HK1.out; first | omega | exact Nat.le_refl _⟩, ⟨by (with_reducible repeat (first | refine blk_drewN ?_ _ | refine blk_drew ?_ | refine blk_alloc ?_ _)); exact BK221.out⟩, ⟨by repeat (first | (with_reducible first | exact HB.out | apply below_alloc | apply pw_below_drewN | apply below_drew1 | refine below_set ?_ GE221.out) | exact HB.out)⟩⟩
      case rest =>
       clear HC7
       try clear c1
       try clear c2
       try clear p2
       try clear q2
       try clear hx2
       try clear c3
       try clear c4
       try clear c4b0
       try clear c5
       try clear c5b0
       try clear c6
       try clear c6b0
       try clear c10
       try clear c10b0
       try clear c12
       try clear c12b0
       try clear hcz11_0
       try clear hcz11_1
       try clear hcz11_2
       try clear hcz11_3
       try clear hcz11_4
       try clear hcz11_5
       try clear hcz11_6
       try clear hcz11_7
       try clear hcz13_0
       try clear hcz13_1
       try clear hcz13_2
       try clear hcz13_3
       try clear hcz13_4
       try clear hcz13_5
       try clear hcz13_6
       try clear hcz13_7
       try clear hcz15_0
       try clear hcz15_1
       try clear hcz15_2
       try clear hcz15_3
       try clear hcz15_4
       try clear hcz15_5
       try clear hcz15_6
       try clear hcz15_7
       try clear hcz9_0
       try clear hcz9_1
       try clear hcz9_2
       try clear hcz9_3
       try clear hcz9_4
       try clear hcz9_5
       try clear hcz9_6
       try clear hcz9_7
       try clear hfz11_0
       try clear hfz11_1
       try clear hfz11_2
       try clear hfz11_3
       try clear hfz11_4
       try clear hfz11_5
       try clear hfz11_6
       try clear hfz11_7
       try clear hfz13_0
       try clear hfz13_1
       try clear hfz13_2
       try clear hfz13_3
       try clear hfz13_4
       try clear hfz13_5
       try clear hfz13_6
       try clear hfz13_7
       try clear hfz15_0
       try clear hfz15_1
       try clear hfz15_2
       try clear hfz15_3
       try clear hfz15_4
       try clear hfz15_5
       try clear hfz15_6
       try clear hfz15_7
       try clear hfz9_0
       try clear hfz9_1
       try clear hfz9_2
       try clear hfz9_3
       try clear hfz9_4
       try clear hfz9_5
       try clear hfz9_6
       try clear hfz9_7
       try clear hx220_0
       try clear hx220_1
       try clear hx220_2
       try clear hx220_3
       try clear hx220_4
       try clear hx220_5
       try clear hx220_6
       try clear hx220_7
       try clear p2
       try clear p220
       try clear q220
       obtain ⟨kq, x29_6, rfl, HA, HJ6, BK221, HB⟩ := hcut
       cases kq with
       | zero => exact absurd HA.out (by simp [culletlaw10_all.j1])
       | succ kj6 =>
        have H := HA.out
        clear HA
        simp only [culletlaw10_all.j1] at H
        by_cases c17 : x29_6 = true
        ·subst c17
         have H1 : (culletlaw10_all.l0 kj6 a1 a2 l0 (l0.length : Int) (wrap64 (x12_1 + 1))) = some r := by rw [if_pos rfl] at H; exact H
         clear H
         have H := H1
         clear H1
         have H' := Aside0.mk H
         clear H
         go_wp2
         go_roundg kj6
         case measure => have := HK1.out; have := HJ6.out; omega
         case rel => exact ⟨(wrap64 (x12_1 + 1)), (by first | rfl | (simp; done) | (simp [*]; done)), H', ⟨by have := HK1.out; have := HJ6.out; omega⟩, ⟨by repeat (first | (with_reducible first | exact HB.out | apply below_alloc | apply pw_below_drewN | apply below_drew1 | refine below_set ?_ GE221.out) | exact HB.out)⟩⟩
        ·replace c17 := Bool.eq_false_iff.mpr c17
         subst c17
         have H1 : (if ((rd_T57 l0 x12_1).f0) ≤ 4 then ((culletlaw10_makes.f ((rd_T57 l0 x12_1).f0) ((rd_T57 l0 x12_1).f1) ((rd_T57 l0 x12_1).f2) ((rd_T57 l0 x12_1).f3) ((rd_T57 l0 x12_1).f4) ((rd_T57 l0 x12_1).f5) ((rd_T57 l0 x12_1).f6) ((rd_T57 l0 x12_1).f7)).bind fun t223 => (if t223 = true then (culletlaw10_all.l0 kj6 a1 a2 l0 (l0.length : Int) (wrap64 (x12_1 + 1))) else (some false))) else (if ((rd_T57 l0 x12_1).f0) ≤ 9 then ((culletlaw10_parts.f kj6 ((rd_T57 l0 x12_1).f0) ((rd_T57 l0 x12_1).f1) ((rd_T57 l0 x12_1).f2) ((rd_T57 l0 x12_1).f3) ((rd_T57 l0 x12_1).f4) ((rd_T57 l0 x12_1).f5) ((rd_T57 l0 x12_1).f6) ((rd_T57 l0 x12_1).f7)).bind fun t224 => (if t224 = true then (culletlaw10_all.l0 kj6 a1 a2 l0 (l0.length : Int) (wrap64 (x12_1 + 1))) else (some false))) else ((culletlaw10_solves.f ((rd_T57 l0 x12_1).f0) ((rd_T57 l0 x12_1).f1) ((rd_T57 l0 x12_1).f2) ((rd_T57 l0 x12_1).f3) ((rd_T57 l0 x12_1).f4) ((rd_T57 l0 x12_1).f5) ((rd_T57 l0 x12_1).f6) ((rd_T57 l0 x12_1).f7)).bind fun t225 => (if t225 = true then (culletlaw10_all.l0 kj6 a1 a2 l0 (l0.length : Int) (wrap64 (x12_1 + 1))) else (some false))))) = some r := by rw [if_neg (show ¬ (false = true) by decide)] at H; exact H
         clear H
         have H := H1
         clear H1
         by_cases c18 : ((rd_T57 l0 x12_1).f0) ≤ 4
         ·rw [if_pos c18] at H
          have c18b0 : decide (((rd_T57 l0 x12_1).f0) ≤ 4) = true := decide_eq_true c18
          clear c18
          replace H := Option.bind_eq_some_iff.mp H
          obtain ⟨t223, A190, H⟩ := H
          replace H : (if t223 = true then (culletlaw10_all.l0 kj6 a1 a2 l0 (l0.length : Int) (wrap64 (x12_1 + 1))) else (some false)) = some r := H
          have A19 := Aside0.mk A190
          clear A190
          by_cases c20 : t223 = true
          ·subst c20
           have H1 : (culletlaw10_all.l0 kj6 a1 a2 l0 (l0.length : Int) (wrap64 (x12_1 + 1))) = some r := by rw [if_pos rfl] at H; exact H
           clear H
           have H := H1
           clear H1
           have H' := Aside0.mk H
           clear H
           have hcz21_0 : wc.cell? ⟨gb221, 0, none⟩ = some (.int .i64 ((rd_T57 l0 x12_1).f0)) := (blk_cell BK221.out 0).trans rfl
           have hcz21_1 : wc.cell? ⟨gb221, 1, none⟩ = some (.slice A220_1 ((rd_T57 l0 x12_1).f1).length c220_1) := (blk_cell BK221.out 1).trans rfl
           have hcz21_2 : wc.cell? ⟨gb221, 2, none⟩ = some (.slice A220_2 ((rd_T57 l0 x12_1).f2).length c220_2) := (blk_cell BK221.out 2).trans rfl
           have hcz21_3 : wc.cell? ⟨gb221, 3, none⟩ = some (.int .i64 ((rd_T57 l0 x12_1).f3)) := (blk_cell BK221.out 3).trans rfl
           have hcz21_4 : wc.cell? ⟨gb221, 4, none⟩ = some (.int .i64 ((rd_T57 l0 x12_1).f4)) := (blk_cell BK221.out 4).trans rfl
           have hcz21_5 : wc.cell? ⟨gb221, 5, none⟩ = some (.int .i64 ((rd_T57 l0 x12_1).f5)) := (blk_cell BK221.out 5).trans rfl
           have hcz21_6 : wc.cell? ⟨gb221, 6, none⟩ = some (.int .i64 ((rd_T57 l0 x12_1).f6)) := (blk_cell BK221.out 6).trans rfl
           have hcz21_7 : wc.cell? ⟨gb221, 7, none⟩ = some (.slice A220_7 ((rd_T57 l0 x12_1).f7).length c220_7) := (blk_cell BK221.out 7).trans rfl
           have hfz21_0 := blk_frozen BK221.out 0
           have hfz21_1 := blk_frozen BK221.out 1
           have hfz21_2 := blk_frozen BK221.out 2
           have hfz21_3 := blk_frozen BK221.out 3
           have hfz21_4 := blk_frozen BK221.out 4
           have hfz21_5 := blk_frozen BK221.out 5
           have hfz21_6 := blk_frozen BK221.out 6
           have hfz21_7 := blk_frozen BK221.out 7
           go_wp2_with (first | ((with_reducible refine gate_callee (f := 50) rfl ?_); refine goesL_ (some 37) rfl rfl Try.func50 (by kernel_rfl) rfl #[.agg #[.int .i64 ((rd_T57 l0 x12_1).f0), .slice A220_1 ((rd_T57 l0 x12_1).f1).length c220_1, .slice A220_2 ((rd_T57 l0 x12_1).f2).length c220_2, .int .i64 ((rd_T57 l0 x12_1).f3), .int .i64 ((rd_T57 l0 x12_1).f4), .int .i64 ((rd_T57 l0 x12_1).f5), .int .i64 ((rd_T57 l0 x12_1).f6), .slice A220_7 ((rd_T57 l0 x12_1).f7).length c220_7]] rfl (by (try simp only [List.map_toArray, List.map_cons, List.map_nil]); first | done | rfl | (simp only [tb_wrap8]; done) | (simp only [tb_wrap8]; rfl) | (simp only [List.length_drop, List.length_take]; rfl)) ?_; (with_reducible refine (culletlaw10_makes.calls ((rd_T57 l0 x12_1).f0) _ _ ((rd_T57 l0 x12_1).f1) _ _ ((rd_T57 l0 x12_1).f2) ((rd_T57 l0 x12_1).f3) ((rd_T57 l0 x12_1).f4) ((rd_T57 l0 x12_1).f5) ((rd_T57 l0 x12_1).f6) _ _ ((rd_T57 l0 x12_1).f7) true _ ?side1 ?side2 ?side3 ?side4 ?side5 ?side6 A19.out).mono ?_); (case side1 => repeat (first | exact (Kd.C_below HR220_1.out HB.out) | (with_reducible refine Kd.C_alloc ?_ _) | (with_reducible refine Kd.C_drewN ?_ _) | (with_reducible refine Kd.C_drew ?_))); (case side2 => exact HC220_1.out); (case side3 => repeat (first | exact (Kd.C_below HR220_2.out HB.out) | (with_reducible refine Kd.C_alloc ?_ _) | (with_reducible refine Kd.C_drewN ?_ _) | (with_reducible refine Kd.C_drew ?_))); (case side4 => exact HC220_2.out); (case side5 => repeat (first | exact (Kd.C_below HR220_7.out HB.out) | (with_reducible refine Kd.C_alloc ?_ _) | (with_reducible refine Kd.C_drewN ?_ _) | (with_reducible refine Kd.C_drew ?_))); (case side6 => exact HC220_7.out); rintro e w22 ⟨rfl, hb⟩; refine ⟨_, rfl, ?_⟩; have n0_ := Aside0.mk (blk_below (g := gb221) (o := .cells #[.int .i64 ((rd_T57 l0 x12_1).f0), .slice A220_1 ((rd_T57 l0 x12_1).f1).length c220_1, .slice A220_2 ((rd_T57 l0 x12_1).f2).length c220_2, .int .i64 ((rd_T57 l0 x12_1).f3), .int .i64 ((rd_T57 l0 x12_1).f4), .int .i64 ((rd_T57 l0 x12_1).f5), .int .i64 ((rd_T57 l0 x12_1).f6), .slice A220_7 ((rd_T57 l0 x12_1).f7).length c220_7] 57 (0, 0)) (by (with_reducible repeat (first | refine blk_drewN ?_ _ | refine blk_drew ?_ | refine blk_alloc ?_ _)); exact BK221.out) hb); have n1_ := Aside0.mk (below_step (by repeat (first | (with_reducible first | exact HB.out | apply below_alloc | apply pw_below_drewN | apply below_drew1 | refine below_set ?_ GE221.out) | exact HB.out)) hb); clear BK221; clear HB; have BK221 := n0_; have HB := n1_; clear n0_ n1_; (try clear hb); (try clear hb2); (try clear hk); (try clear hi)))
           go_roundg kj6
           case measure => have := HK1.out; have := HJ6.out; omega
           case rel => exact ⟨(wrap64 (x12_1 + 1)), (by first | rfl | (simp; done) | (simp [*]; done)), H', ⟨by have := HK1.out; have := HJ6.out; omega⟩, ⟨by repeat (first | (with_reducible first | exact HB.out | apply below_alloc | apply pw_below_drewN | apply below_drew1 | refine below_set ?_ GE221.out) | exact HB.out)⟩⟩
          ·replace c20 := Bool.eq_false_iff.mpr c20
           subst c20
           have H1 : (some false) = some r := by rw [if_neg (show ¬ (false = true) by decide)] at H; exact H
           clear H
           have H := H1
           clear H1
           obtain rfl := Option.some.inj H
           have hcz23_0 : wc.cell? ⟨gb221, 0, none⟩ = some (.int .i64 ((rd_T57 l0 x12_1).f0)) := (blk_cell BK221.out 0).trans rfl
           have hcz23_1 : wc.cell? ⟨gb221, 1, none⟩ = some (.slice A220_1 ((rd_T57 l0 x12_1).f1).length c220_1) := (blk_cell BK221.out 1).trans rfl
           have hcz23_2 : wc.cell? ⟨gb221, 2, none⟩ = some (.slice A220_2 ((rd_T57 l0 x12_1).f2).length c220_2) := (blk_cell BK221.out 2).trans rfl
           have hcz23_3 : wc.cell? ⟨gb221, 3, none⟩ = some (.int .i64 ((rd_T57 l0 x12_1).f3)) := (blk_cell BK221.out 3).trans rfl
           have hcz23_4 : wc.cell? ⟨gb221, 4, none⟩ = some (.int .i64 ((rd_T57 l0 x12_1).f4)) := (blk_cell BK221.out 4).trans rfl
           have hcz23_5 : wc.cell? ⟨gb221, 5, none⟩ = some (.int .i64 ((rd_T57 l0 x12_1).f5)) := (blk_cell BK221.out 5).trans rfl
           have hcz23_6 : wc.cell? ⟨gb221, 6, none⟩ = some (.int .i64 ((rd_T57 l0 x12_1).f6)) := (blk_cell BK221.out 6).trans rfl
           have hcz23_7 : wc.cell? ⟨gb221, 7, none⟩ = some (.slice A220_7 ((rd_T57 l0 x12_1).f7).length c220_7) := (blk_cell BK221.out 7).trans rfl
           have hfz23_0 := blk_frozen BK221.out 0
           have hfz23_1 := blk_frozen BK221.out 1
           have hfz23_2 := blk_frozen BK221.out 2
           have hfz23_3 := blk_frozen BK221.out 3
           have hfz23_4 := blk_frozen BK221.out 4
           have hfz23_5 := blk_frozen BK221.out 5
           have hfz23_6 := blk_frozen BK221.out 6
           have hfz23_7 := blk_frozen BK221.out 7
           go_wp2_with (first | ((with_reducible refine gate_callee (f := 50) rfl ?_); refine goesL_ (some 37) rfl rfl Try.func50 (by kernel_rfl) rfl #[.agg #[.int .i64 ((rd_T57 l0 x12_1).f0), .slice A220_1 ((rd_T57 l0 x12_1).f1).length c220_1, .slice A220_2 ((rd_T57 l0 x12_1).f2).length c220_2, .int .i64 ((rd_T57 l0 x12_1).f3), .int .i64 ((rd_T57 l0 x12_1).f4), .int .i64 ((rd_T57 l0 x12_1).f5), .int .i64 ((rd_T57 l0 x12_1).f6), .slice A220_7 ((rd_T57 l0 x12_1).f7).length c220_7]] rfl (by (try simp only [List.map_toArray, List.map_cons, List.map_nil]); first | done | rfl | (simp only [tb_wrap8]; done) | (simp only [tb_wrap8]; rfl) | (simp only [List.length_drop, List.length_take]; rfl)) ?_; (with_reducible refine (culletlaw10_makes.calls ((rd_T57 l0 x12_1).f0) _ _ ((rd_T57 l0 x12_1).f1) _ _ ((rd_T57 l0 x12_1).f2) ((rd_T57 l0 x12_1).f3) ((rd_T57 l0 x12_1).f4) ((rd_T57 l0 x12_1).f5) ((rd_T57 l0 x12_1).f6) _ _ ((rd_T57 l0 x12_1).f7) false _ ?side1 ?side2 ?side3 ?side4 ?side5 ?side6 A19.out).mono ?_); (case side1 => repeat (first | exact (Kd.C_below HR220_1.out HB.out) | (with_reducible refine Kd.C_alloc ?_ _) | (with_reducible refine Kd.C_drewN ?_ _) | (with_reducible refine Kd.C_drew ?_))); (case side2 => exact HC220_1.out); (case side3 => repeat (first | exact (Kd.C_below HR220_2.out HB.out) | (with_reducible refine Kd.C_alloc ?_ _) | (with_reducible refine Kd.C_drewN ?_ _) | (with_reducible refine Kd.C_drew ?_))); (case side4 => exact HC220_2.out); (case side5 => repeat (first | exact (Kd.C_below HR220_7.out HB.out) | (with_reducible refine Kd.C_alloc ?_ _) | (with_reducible refine Kd.C_drewN ?_ _) | (with_reducible refine Kd.C_drew ?_))); (case side6 => exact HC220_7.out); rintro e w24 ⟨rfl, hb⟩; refine ⟨_, rfl, ?_⟩; have n0_ := Aside0.mk (blk_below (g := gb221) (o := .cells #[.int .i64 ((rd_T57 l0 x12_1).f0), .slice A220_1 ((rd_T57 l0 x12_1).f1).length c220_1, .slice A220_2 ((rd_T57 l0 x12_1).f2).length c220_2, .int .i64 ((rd_T57 l0 x12_1).f3), .int .i64 ((rd_T57 l0 x12_1).f4), .int .i64 ((rd_T57 l0 x12_1).f5), .int .i64 ((rd_T57 l0 x12_1).f6), .slice A220_7 ((rd_T57 l0 x12_1).f7).length c220_7] 57 (0, 0)) (by (with_reducible repeat (first | refine blk_drewN ?_ _ | refine blk_drew ?_ | refine blk_alloc ?_ _)); exact BK221.out) hb); have n1_ := Aside0.mk (below_step (by repeat (first | (with_reducible first | exact HB.out | apply below_alloc | apply pw_below_drewN | apply below_drew1 | refine below_set ?_ GE221.out) | exact HB.out)) hb); clear BK221; clear HB; have BK221 := n0_; have HB := n1_; clear n0_ n1_; (try clear hb); (try clear hb2); (try clear hk); (try clear hi)))
           go_ret
           exact ⟨by first | rfl | (simp [errW_none, errW_some] <;> rfl) | (simp [*, errW_none, errW_some] <;> rfl), by repeat (first | (with_reducible first | exact HB.out | apply below_alloc | apply pw_below_drewN | apply below_drew1 | refine below_set ?_ GE221.out) | exact HB.out)⟩
         ·rw [if_neg c18] at H
          have c18b0 : decide (((rd_T57 l0 x12_1).f0) ≤ 4) = false := decide_eq_false c18
          clear c18
          by_cases c25 : ((rd_T57 l0 x12_1).f0) ≤ 9
          ·rw [if_pos c25] at H
           have c25b0 : decide (((rd_T57 l0 x12_1).f0) ≤ 9) = true := decide_eq_true c25
           clear c25
           replace H := Option.bind_eq_some_iff.mp H
           obtain ⟨t224, A260, H⟩ := H
           replace H : (if t224 = true then (culletlaw10_all.l0 kj6 a1 a2 l0 (l0.length : Int) (wrap64 (x12_1 + 1))) else (some false)) = some r := H
           have A26 := Aside0.mk A260
           clear A260
           by_cases c27 : t224 = true
           ·subst c27
            have H1 : (culletlaw10_all.l0 kj6 a1 a2 l0 (l0.length : Int) (wrap64 (x12_1 + 1))) = some r := by rw [if_pos rfl] at H; exact H
            clear H
            have H := H1
            clear H1
            have H' := Aside0.mk H
            clear H
            have hcz28_0 : wc.cell? ⟨gb221, 0, none⟩ = some (.int .i64 ((rd_T57 l0 x12_1).f0)) := (blk_cell BK221.out 0).trans rfl
            have hcz28_1 : wc.cell? ⟨gb221, 1, none⟩ = some (.slice A220_1 ((rd_T57 l0 x12_1).f1).length c220_1) := (blk_cell BK221.out 1).trans rfl
            have hcz28_2 : wc.cell? ⟨gb221, 2, none⟩ = some (.slice A220_2 ((rd_T57 l0 x12_1).f2).length c220_2) := (blk_cell BK221.out 2).trans rfl
            have hcz28_3 : wc.cell? ⟨gb221, 3, none⟩ = some (.int .i64 ((rd_T57 l0 x12_1).f3)) := (blk_cell BK221.out 3).trans rfl
            have hcz28_4 : wc.cell? ⟨gb221, 4, none⟩ = some (.int .i64 ((rd_T57 l0 x12_1).f4)) := (blk_cell BK221.out 4).trans rfl
            have hcz28_5 : wc.cell? ⟨gb221, 5, none⟩ = some (.int .i64 ((rd_T57 l0 x12_1).f5)) := (blk_cell BK221.out 5).trans rfl
            have hcz28_6 : wc.cell? ⟨gb221, 6, none⟩ = some (.int .i64 ((rd_T57 l0 x12_1).f6)) := (blk_cell BK221.out 6).trans rfl
            have hcz28_7 : wc.cell? ⟨gb221, 7, none⟩ = some (.slice A220_7 ((rd_T57 l0 x12_1).f7).length c220_7) := (blk_cell BK221.out 7).trans rfl
            have hfz28_0 := blk_frozen BK221.out 0
            have hfz28_1 := blk_frozen BK221.out 1
            have hfz28_2 := blk_frozen BK221.out 2
            have hfz28_3 := blk_frozen BK221.out 3
            have hfz28_4 := blk_frozen BK221.out 4
            have hfz28_5 := blk_frozen BK221.out 5
            have hfz28_6 := blk_frozen BK221.out 6
            have hfz28_7 := blk_frozen BK221.out 7
            go_wp2_with (first | ((with_reducible refine gate_callee (f := 51) rfl ?_); refine goesL_ (some 43) rfl rfl Try.func51 (by kernel_rfl) rfl #[.agg #[.int .i64 ((rd_T57 l0 x12_1).f0), .slice A220_1 ((rd_T57 l0 x12_1).f1).length c220_1, .slice A220_2 ((rd_T57 l0 x12_1).f2).length c220_2, .int .i64 ((rd_T57 l0 x12_1).f3), .int .i64 ((rd_T57 l0 x12_1).f4), .int .i64 ((rd_T57 l0 x12_1).f5), .int .i64 ((rd_T57 l0 x12_1).f6), .slice A220_7 ((rd_T57 l0 x12_1).f7).length c220_7]] rfl (by (try simp only [List.map_toArray, List.map_cons, List.map_nil]); first | done | rfl | (simp only [tb_wrap8]; done) | (simp only [tb_wrap8]; rfl) | (simp only [List.length_drop, List.length_take]; rfl)) ?_; (with_reducible refine (culletlaw10_parts.calls kj6 ((rd_T57 l0 x12_1).f0) _ _ ((rd_T57 l0 x12_1).f1) _ _ ((rd_T57 l0 x12_1).f2) ((rd_T57 l0 x12_1).f3) ((rd_T57 l0 x12_1).f4) ((rd_T57 l0 x12_1).f5) ((rd_T57 l0 x12_1).f6) _ _ ((rd_T57 l0 x12_1).f7) true _ ?side1 ?side2 ?side3 ?side4 ?side5 ?side6 A26.out).mono ?_); (case side1 => repeat (first | exact (Kd.C_below HR220_1.out HB.out) | (with_reducible refine Kd.C_alloc ?_ _) | (with_reducible refine Kd.C_drewN ?_ _) | (with_reducible refine Kd.C_drew ?_))); (case side2 => exact HC220_1.out); (case side3 => repeat (first | exact (Kd.C_below HR220_2.out HB.out) | (with_reducible refine Kd.C_alloc ?_ _) | (with_reducible refine Kd.C_drewN ?_ _) | (with_reducible refine Kd.C_drew ?_))); (case side4 => exact HC220_2.out); (case side5 => repeat (first | exact (Kd.C_below HR220_7.out HB.out) | (with_reducible refine Kd.C_alloc ?_ _) | (with_reducible refine Kd.C_drewN ?_ _) | (with_reducible refine Kd.C_drew ?_))); (case side6 => exact HC220_7.out); rintro e w29 ⟨rfl, hb⟩; refine ⟨_, rfl, ?_⟩; have n0_ := Aside0.mk (blk_below (g := gb221) (o := .cells #[.int .i64 ((rd_T57 l0 x12_1).f0), .slice A220_1 ((rd_T57 l0 x12_1).f1).length c220_1, .slice A220_2 ((rd_T57 l0 x12_1).f2).length c220_2, .int .i64 ((rd_T57 l0 x12_1).f3), .int .i64 ((rd_T57 l0 x12_1).f4), .int .i64 ((rd_T57 l0 x12_1).f5), .int .i64 ((rd_T57 l0 x12_1).f6), .slice A220_7 ((rd_T57 l0 x12_1).f7).length c220_7] 57 (0, 0)) (by (with_reducible repeat (first | refine blk_drewN ?_ _ | refine blk_drew ?_ | refine blk_alloc ?_ _)); exact BK221.out) hb); have n1_ := Aside0.mk (below_step (by repeat (first | (with_reducible first | exact HB.out | apply below_alloc | apply pw_below_drewN | apply below_drew1 | refine below_set ?_ GE221.out) | exact HB.out)) hb); clear BK221; clear HB; have BK221 := n0_; have HB := n1_; clear n0_ n1_; (try clear hb); (try clear hb2); (try clear hk); (try clear hi)))
            go_roundg kj6
            case measure => have := HK1.out; have := HJ6.out; omega
            case rel => exact ⟨(wrap64 (x12_1 + 1)), (by first | rfl | (simp; done) | (simp [*]; done)), H', ⟨by have := HK1.out; have := HJ6.out; omega⟩, ⟨by repeat (first | (with_reducible first | exact HB.out | apply below_alloc | apply pw_below_drewN | apply below_drew1 | refine below_set ?_ GE221.out) | exact HB.out)⟩⟩
           ·replace c27 := Bool.eq_false_iff.mpr c27
            subst c27
            have H1 : (some false) = some r := by rw [if_neg (show ¬ (false = true) by decide)] at H; exact H
            clear H
            have H := H1
            clear H1
            obtain rfl := Option.some.inj H
            have hcz30_0 : wc.cell? ⟨gb221, 0, none⟩ = some (.int .i64 ((rd_T57 l0 x12_1).f0)) := (blk_cell BK221.out 0).trans rfl
            have hcz30_1 : wc.cell? ⟨gb221, 1, none⟩ = some (.slice A220_1 ((rd_T57 l0 x12_1).f1).length c220_1) := (blk_cell BK221.out 1).trans rfl
            have hcz30_2 : wc.cell? ⟨gb221, 2, none⟩ = some (.slice A220_2 ((rd_T57 l0 x12_1).f2).length c220_2) := (blk_cell BK221.out 2).trans rfl
            have hcz30_3 : wc.cell? ⟨gb221, 3, none⟩ = some (.int .i64 ((rd_T57 l0 x12_1).f3)) := (blk_cell BK221.out 3).trans rfl
            have hcz30_4 : wc.cell? ⟨gb221, 4, none⟩ = some (.int .i64 ((rd_T57 l0 x12_1).f4)) := (blk_cell BK221.out 4).trans rfl
            have hcz30_5 : wc.cell? ⟨gb221, 5, none⟩ = some (.int .i64 ((rd_T57 l0 x12_1).f5)) := (blk_cell BK221.out 5).trans rfl
            have hcz30_6 : wc.cell? ⟨gb221, 6, none⟩ = some (.int .i64 ((rd_T57 l0 x12_1).f6)) := (blk_cell BK221.out 6).trans rfl
            have hcz30_7 : wc.cell? ⟨gb221, 7, none⟩ = some (.slice A220_7 ((rd_T57 l0 x12_1).f7).length c220_7) := (blk_cell BK221.out 7).trans rfl
            have hfz30_0 := blk_frozen BK221.out 0
            have hfz30_1 := blk_frozen BK221.out 1
            have hfz30_2 := blk_frozen BK221.out 2
            have hfz30_3 := blk_frozen BK221.out 3
            have hfz30_4 := blk_frozen BK221.out 4
            have hfz30_5 := blk_frozen BK221.out 5
            have hfz30_6 := blk_frozen BK221.out 6
            have hfz30_7 := blk_frozen BK221.out 7
            go_wp2_with (first | ((with_reducible refine gate_callee (f := 51) rfl ?_); refine goesL_ (some 43) rfl rfl Try.func51 (by kernel_rfl) rfl #[.agg #[.int .i64 ((rd_T57 l0 x12_1).f0), .slice A220_1 ((rd_T57 l0 x12_1).f1).length c220_1, .slice A220_2 ((rd_T57 l0 x12_1).f2).length c220_2, .int .i64 ((rd_T57 l0 x12_1).f3), .int .i64 ((rd_T57 l0 x12_1).f4), .int .i64 ((rd_T57 l0 x12_1).f5), .int .i64 ((rd_T57 l0 x12_1).f6), .slice A220_7 ((rd_T57 l0 x12_1).f7).length c220_7]] rfl (by (try simp only [List.map_toArray, List.map_cons, List.map_nil]); first | done | rfl | (simp only [tb_wrap8]; done) | (simp only [tb_wrap8]; rfl) | (simp only [List.length_drop, List.length_take]; rfl)) ?_; (with_reducible refine (culletlaw10_parts.calls kj6 ((rd_T57 l0 x12_1).f0) _ _ ((rd_T57 l0 x12_1).f1) _ _ ((rd_T57 l0 x12_1).f2) ((rd_T57 l0 x12_1).f3) ((rd_T57 l0 x12_1).f4) ((rd_T57 l0 x12_1).f5) ((rd_T57 l0 x12_1).f6) _ _ ((rd_T57 l0 x12_1).f7) false _ ?side1 ?side2 ?side3 ?side4 ?side5 ?side6 A26.out).mono ?_); (case side1 => repeat (first | exact (Kd.C_below HR220_1.out HB.out) | (with_reducible refine Kd.C_alloc ?_ _) | (with_reducible refine Kd.C_drewN ?_ _) | (with_reducible refine Kd.C_drew ?_))); (case side2 => exact HC220_1.out); (case side3 => repeat (first | exact (Kd.C_below HR220_2.out HB.out) | (with_reducible refine Kd.C_alloc ?_ _) | (with_reducible refine Kd.C_drewN ?_ _) | (with_reducible refine Kd.C_drew ?_))); (case side4 => exact HC220_2.out); (case side5 => repeat (first | exact (Kd.C_below HR220_7.out HB.out) | (with_reducible refine Kd.C_alloc ?_ _) | (with_reducible refine Kd.C_drewN ?_ _) | (with_reducible refine Kd.C_drew ?_))); (case side6 => exact HC220_7.out); rintro e w31 ⟨rfl, hb⟩; refine ⟨_, rfl, ?_⟩; have n0_ := Aside0.mk (blk_below (g := gb221) (o := .cells #[.int .i64 ((rd_T57 l0 x12_1).f0), .slice A220_1 ((rd_T57 l0 x12_1).f1).length c220_1, .slice A220_2 ((rd_T57 l0 x12_1).f2).length c220_2, .int .i64 ((rd_T57 l0 x12_1).f3), .int .i64 ((rd_T57 l0 x12_1).f4), .int .i64 ((rd_T57 l0 x12_1).f5), .int .i64 ((rd_T57 l0 x12_1).f6), .slice A220_7 ((rd_T57 l0 x12_1).f7).length c220_7] 57 (0, 0)) (by (with_reducible repeat (first | refine blk_drewN ?_ _ | refine blk_drew ?_ | refine blk_alloc ?_ _)); exact BK221.out) hb); have n1_ := Aside0.mk (below_step (by repeat (first | (with_reducible first | exact HB.out | apply below_alloc | apply pw_below_drewN | apply below_drew1 | refine below_set ?_ GE221.out) | exact HB.out)) hb); clear BK221; clear HB; have BK221 := n0_; have HB := n1_; clear n0_ n1_; (try clear hb); (try clear hb2); (try clear hk); (try clear hi)))
            go_ret
            exact ⟨by first | rfl | (simp [errW_none, errW_some] <;> rfl) | (simp [*, errW_none, errW_some] <;> rfl), by repeat (first | (with_reducible first | exact HB.out | apply below_alloc | apply pw_below_drewN | apply below_drew1 | refine below_set ?_ GE221.out) | exact HB.out)⟩
          ·rw [if_neg c25] at H
           have c25b0 : decide (((rd_T57 l0 x12_1).f0) ≤ 9) = false := decide_eq_false c25
           clear c25
           replace H := Option.bind_eq_some_iff.mp H
           obtain ⟨t225, A320, H⟩ := H
           replace H : (if t225 = true then (culletlaw10_all.l0 kj6 a1 a2 l0 (l0.length : Int) (wrap64 (x12_1 + 1))) else (some false)) = some r := H
           have A32 := Aside0.mk A320
           clear A320
           by_cases c33 : t225 = true
           ·subst c33
            have H1 : (culletlaw10_all.l0 kj6 a1 a2 l0 (l0.length : Int) (wrap64 (x12_1 + 1))) = some r := by rw [if_pos rfl] at H; exact H
            clear H
            have H := H1
            clear H1
            have H' := Aside0.mk H
            clear H
            have hcz34_0 : wc.cell? ⟨gb221, 0, none⟩ = some (.int .i64 ((rd_T57 l0 x12_1).f0)) := (blk_cell BK221.out 0).trans rfl
            have hcz34_1 : wc.cell? ⟨gb221, 1, none⟩ = some (.slice A220_1 ((rd_T57 l0 x12_1).f1).length c220_1) := (blk_cell BK221.out 1).trans rfl
            have hcz34_2 : wc.cell? ⟨gb221, 2, none⟩ = some (.slice A220_2 ((rd_T57 l0 x12_1).f2).length c220_2) := (blk_cell BK221.out 2).trans rfl
            have hcz34_3 : wc.cell? ⟨gb221, 3, none⟩ = some (.int .i64 ((rd_T57 l0 x12_1).f3)) := (blk_cell BK221.out 3).trans rfl
            have hcz34_4 : wc.cell? ⟨gb221, 4, none⟩ = some (.int .i64 ((rd_T57 l0 x12_1).f4)) := (blk_cell BK221.out 4).trans rfl
            have hcz34_5 : wc.cell? ⟨gb221, 5, none⟩ = some (.int .i64 ((rd_T57 l0 x12_1).f5)) := (blk_cell BK221.out 5).trans rfl
            have hcz34_6 : wc.cell? ⟨gb221, 6, none⟩ = some (.int .i64 ((rd_T57 l0 x12_1).f6)) := (blk_cell BK221.out 6).trans rfl
            have hcz34_7 : wc.cell? ⟨gb221, 7, none⟩ = some (.slice A220_7 ((rd_T57 l0 x12_1).f7).length c220_7) := (blk_cell BK221.out 7).trans rfl
            have hfz34_0 := blk_frozen BK221.out 0
            have hfz34_1 := blk_frozen BK221.out 1
            have hfz34_2 := blk_frozen BK221.out 2
            have hfz34_3 := blk_frozen BK221.out 3
            have hfz34_4 := blk_frozen BK221.out 4
            have hfz34_5 := blk_frozen BK221.out 5
            have hfz34_6 := blk_frozen BK221.out 6
            have hfz34_7 := blk_frozen BK221.out 7
            go_wp2_with (first | ((with_reducible refine gate_callee (f := 52) rfl ?_); refine goesL_ (some 31) rfl rfl Try.func52 (by kernel_rfl) rfl #[.agg #[.int .i64 ((rd_T57 l0 x12_1).f0), .slice A220_1 ((rd_T57 l0 x12_1).f1).length c220_1, .slice A220_2 ((rd_T57 l0 x12_1).f2).length c220_2, .int .i64 ((rd_T57 l0 x12_1).f3), .int .i64 ((rd_T57 l0 x12_1).f4), .int .i64 ((rd_T57 l0 x12_1).f5), .int .i64 ((rd_T57 l0 x12_1).f6), .slice A220_7 ((rd_T57 l0 x12_1).f7).length c220_7]] rfl (by (try simp only [List.map_toArray, List.map_cons, List.map_nil]); first | done | rfl | (simp only [tb_wrap8]; done) | (simp only [tb_wrap8]; rfl) | (simp only [List.length_drop, List.length_take]; rfl)) ?_; (with_reducible refine (culletlaw10_solves.calls ((rd_T57 l0 x12_1).f0) _ _ ((rd_T57 l0 x12_1).f1) _ _ ((rd_T57 l0 x12_1).f2) ((rd_T57 l0 x12_1).f3) ((rd_T57 l0 x12_1).f4) ((rd_T57 l0 x12_1).f5) ((rd_T57 l0 x12_1).f6) _ _ ((rd_T57 l0 x12_1).f7) true _ ?side1 ?side2 ?side3 ?side4 ?side5 ?side6 A32.out).mono ?_); (case side1 => repeat (first | exact (Kd.C_below HR220_1.out HB.out) | (with_reducible refine Kd.C_alloc ?_ _) | (with_reducible refine Kd.C_drewN ?_ _) | (with_reducible refine Kd.C_drew ?_))); (case side2 => exact HC220_1.out); (case side3 => repeat (first | exact (Kd.C_below HR220_2.out HB.out) | (with_reducible refine Kd.C_alloc ?_ _) | (with_reducible refine Kd.C_drewN ?_ _) | (with_reducible refine Kd.C_drew ?_))); (case side4 => exact HC220_2.out); (case side5 => repeat (first | exact (Kd.C_below HR220_7.out HB.out) | (with_reducible refine Kd.C_alloc ?_ _) | (with_reducible refine Kd.C_drewN ?_ _) | (with_reducible refine Kd.C_drew ?_))); (case side6 => exact HC220_7.out); rintro e w35 ⟨rfl, hb⟩; refine ⟨_, rfl, ?_⟩; have n0_ := Aside0.mk (blk_below (g := gb221) (o := .cells #[.int .i64 ((rd_T57 l0 x12_1).f0), .slice A220_1 ((rd_T57 l0 x12_1).f1).length c220_1, .slice A220_2 ((rd_T57 l0 x12_1).f2).length c220_2, .int .i64 ((rd_T57 l0 x12_1).f3), .int .i64 ((rd_T57 l0 x12_1).f4), .int .i64 ((rd_T57 l0 x12_1).f5), .int .i64 ((rd_T57 l0 x12_1).f6), .slice A220_7 ((rd_T57 l0 x12_1).f7).length c220_7] 57 (0, 0)) (by (with_reducible repeat (first | refine blk_drewN ?_ _ | refine blk_drew ?_ | refine blk_alloc ?_ _)); exact BK221.out) hb); have n1_ := Aside0.mk (below_step (by repeat (first | (with_reducible first | exact HB.out | apply below_alloc | apply pw_below_drewN | apply below_drew1 | refine below_set ?_ GE221.out) | exact HB.out)) hb); clear BK221; clear HB; have BK221 := n0_; have HB := n1_; clear n0_ n1_; (try clear hb); (try clear hb2); (try clear hk); (try clear hi)))
            go_roundg kj6
            case measure => have := HK1.out; have := HJ6.out; omega
            case rel => exact ⟨(wrap64 (x12_1 + 1)), (by first | rfl | (simp; done) | (simp [*]; done)), H', ⟨by have := HK1.out; have := HJ6.out; omega⟩, ⟨by repeat (first | (with_reducible first | exact HB.out | apply below_alloc | apply pw_below_drewN | apply below_drew1 | refine below_set ?_ GE221.out) | exact HB.out)⟩⟩
           ·replace c33 := Bool.eq_false_iff.mpr c33
            subst c33
            have H1 : (some false) = some r := by rw [if_neg (show ¬ (false = true) by decide)] at H; exact H
            clear H
            have H := H1
            clear H1
            obtain rfl := Option.some.inj H
            have hcz36_0 : wc.cell? ⟨gb221, 0, none⟩ = some (.int .i64 ((rd_T57 l0 x12_1).f0)) := (blk_cell BK221.out 0).trans rfl
            have hcz36_1 : wc.cell? ⟨gb221, 1, none⟩ = some (.slice A220_1 ((rd_T57 l0 x12_1).f1).length c220_1) := (blk_cell BK221.out 1).trans rfl
            have hcz36_2 : wc.cell? ⟨gb221, 2, none⟩ = some (.slice A220_2 ((rd_T57 l0 x12_1).f2).length c220_2) := (blk_cell BK221.out 2).trans rfl
            have hcz36_3 : wc.cell? ⟨gb221, 3, none⟩ = some (.int .i64 ((rd_T57 l0 x12_1).f3)) := (blk_cell BK221.out 3).trans rfl
            have hcz36_4 : wc.cell? ⟨gb221, 4, none⟩ = some (.int .i64 ((rd_T57 l0 x12_1).f4)) := (blk_cell BK221.out 4).trans rfl
            have hcz36_5 : wc.cell? ⟨gb221, 5, none⟩ = some (.int .i64 ((rd_T57 l0 x12_1).f5)) := (blk_cell BK221.out 5).trans rfl
            have hcz36_6 : wc.cell? ⟨gb221, 6, none⟩ = some (.int .i64 ((rd_T57 l0 x12_1).f6)) := (blk_cell BK221.out 6).trans rfl
            have hcz36_7 : wc.cell? ⟨gb221, 7, none⟩ = some (.slice A220_7 ((rd_T57 l0 x12_1).f7).length c220_7) := (blk_cell BK221.out 7).trans rfl
            have hfz36_0 := blk_frozen BK221.out 0
            have hfz36_1 := blk_frozen BK221.out 1
            have hfz36_2 := blk_frozen BK221.out 2
            have hfz36_3 := blk_frozen BK221.out 3
            have hfz36_4 := blk_frozen BK221.out 4
            have hfz36_5 := blk_frozen BK221.out 5
            have hfz36_6 := blk_frozen BK221.out 6
            have hfz36_7 := blk_frozen BK221.out 7
            go_wp2_with (first | ((with_reducible refine gate_callee (f := 52) rfl ?_); refine goesL_ (some 31) rfl rfl Try.func52 (by kernel_rfl) rfl #[.agg #[.int .i64 ((rd_T57 l0 x12_1).f0), .slice A220_1 ((rd_T57 l0 x12_1).f1).length c220_1, .slice A220_2 ((rd_T57 l0 x12_1).f2).length c220_2, .int .i64 ((rd_T57 l0 x12_1).f3), .int .i64 ((rd_T57 l0 x12_1).f4), .int .i64 ((rd_T57 l0 x12_1).f5), .int .i64 ((rd_T57 l0 x12_1).f6), .slice A220_7 ((rd_T57 l0 x12_1).f7).length c220_7]] rfl (by (try simp only [List.map_toArray, List.map_cons, List.map_nil]); first | done | rfl | (simp only [tb_wrap8]; done) | (simp only [tb_wrap8]; rfl) | (simp only [List.length_drop, List.length_take]; rfl)) ?_; (with_reducible refine (culletlaw10_solves.calls ((rd_T57 l0 x12_1).f0) _ _ ((rd_T57 l0 x12_1).f1) _ _ ((rd_T57 l0 x12_1).f2) ((rd_T57 l0 x12_1).f3) ((rd_T57 l0 x12_1).f4) ((rd_T57 l0 x12_1).f5) ((rd_T57 l0 x12_1).f6) _ _ ((rd_T57 l0 x12_1).f7) false _ ?side1 ?side2 ?side3 ?side4 ?side5 ?side6 A32.out).mono ?_); (case side1 => repeat (first | exact (Kd.C_below HR220_1.out HB.out) | (with_reducible refine Kd.C_alloc ?_ _) | (with_reducible refine Kd.C_drewN ?_ _) | (with_reducible refine Kd.C_drew ?_))); (case side2 => exact HC220_1.out); (case side3 => repeat (first | exact (Kd.C_below HR220_2.out HB.out) | (with_reducible refine Kd.C_alloc ?_ _) | (with_reducible refine Kd.C_drewN ?_ _) | (with_reducible refine Kd.C_drew ?_))); (case side4 => exact HC220_2.out); (case side5 => repeat (first | exact (Kd.C_below HR220_7.out HB.out) | (with_reducible refine Kd.C_alloc ?_ _) | (with_reducible refine Kd.C_drewN ?_ _) | (with_reducible refine Kd.C_drew ?_))); (case side6 => exact HC220_7.out); rintro e w37 ⟨rfl, hb⟩; refine ⟨_, rfl, ?_⟩; have n0_ := Aside0.mk (blk_below (g := gb221) (o := .cells #[.int .i64 ((rd_T57 l0 x12_1).f0), .slice A220_1 ((rd_T57 l0 x12_1).f1).length c220_1, .slice A220_2 ((rd_T57 l0 x12_1).f2).length c220_2, .int .i64 ((rd_T57 l0 x12_1).f3), .int .i64 ((rd_T57 l0 x12_1).f4), .int .i64 ((rd_T57 l0 x12_1).f5), .int .i64 ((rd_T57 l0 x12_1).f6), .slice A220_7 ((rd_T57 l0 x12_1).f7).length c220_7] 57 (0, 0)) (by (with_reducible repeat (first | refine blk_drewN ?_ _ | refine blk_drew ?_ | refine blk_alloc ?_ _)); exact BK221.out) hb); have n1_ := Aside0.mk (below_step (by repeat (first | (with_reducible first | exact HB.out | apply below_alloc | apply pw_below_drewN | apply below_drew1 | refine below_set ?_ GE221.out) | exact HB.out)) hb); clear BK221; clear HB; have BK221 := n0_; have HB := n1_; clear n0_ n1_; (try clear hb); (try clear hb2); (try clear hk); (try clear hi)))
            go_ret
            exact ⟨by first | rfl | (simp [errW_none, errW_some] <;> rfl) | (simp [*, errW_none, errW_some] <;> rfl), by repeat (first | (with_reducible first | exact HB.out | apply below_alloc | apply pw_below_drewN | apply below_drew1 | refine below_set ?_ GE221.out) | exact HB.out)⟩
     ·rw [if_neg c6] at H
      exact absurd H (by simp)
    ·rw [if_neg c5] at H
     exact absurd H (by simp)
   ·rw [if_neg c4] at H
    have c4b0 : decide (x12_1 < (l0.length : Int)) = false := decide_eq_false c4
    clear c4
    obtain rfl := Option.some.inj H
    go_wp2
    go_ret
    exact ⟨by first | rfl | (simp [errW_none, errW_some] <;> rfl) | (simp [*, errW_none, errW_some] <;> rfl), by repeat (first | (with_reducible first | exact HB.out | apply below_alloc | apply pw_below_drewN | apply below_drew1) | exact HB.out)⟩

end Go.Proofs.Ytidogckochpbgaa.Q
