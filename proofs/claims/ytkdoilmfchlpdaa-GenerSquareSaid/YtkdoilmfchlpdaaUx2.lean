import Derived.Test.YtkdoilmfchlpdaaUx0
-- Printed for this claim by mp.py, a program of its prover, through the kit's print. Lean checks it.
namespace Go.Proofs.Ytkdoilmfchlpdaa.U
open Go.RowKit Go.Proofs.YtkdoilmfchlpdaaW.PrintWords Go.Proofs.YtkdoilmfchlpdaaW.PrintLast Go.Proofs.YtkdoilmfchlpdaaW.PrintMore Go.Proofs.Ytkdoilmfchlpdaa.A Go.Proofs.Ytkdoilmfchlpdaa.B
attribute [local go_sem] max2_int min2_int max_two min_two max_three min_three max_four min_four   -- for this text's walks alone
set_option linter.unusedVariables false
set_option linter.unusedSimpArgs false

/-! ### culletlaw11_GenerSquare: function 13 -/
mutual
def culletlaw11_GenerSquare.j0 : Nat → List (List Int) → Bool → Option (Bool)
 | 0, _, _ => none
 | k + 1, x0, x35 => if x35 = true then (some true) else ((culletlaw11_copied.f k x0).bind fun t104 => ((gener_Systematic.f k t104).bind fun bt107 => (if bt107.2 = 0 then (if 0 < (x0.length : Int) then (if (bt107.1.length : Int) = (x0.length : Int) then (culletlaw11_GenerSquare.j1 k x0 bt107.1 ((rd_L1 x0 0).length : Int) (decide ((x0.length : Int) < ((rd_L1 x0 0).length : Int)))) else (culletlaw11_GenerSquare.j1 k x0 bt107.1 ((rd_L1 x0 0).length : Int) true)) else (none)) else (some ((bt107.1.length : Int) == 0)))))
def culletlaw11_GenerSquare.j1 : Nat → List (List Int) → List (List Int) → Int → Bool → Option (Bool)
 | 0, _, _, _, _ => none
 | k + 1, x0, x3, x5, x61 => if x61 = true then (some false) else (culletlaw11_GenerSquare.l0 k x0 x3 x5 0)
def culletlaw11_GenerSquare.l0 : Nat → List (List Int) → List (List Int) → Int → Int → Option (Bool)
 | 0, _, _, _, _ => none
 | k + 1, x0, x3, x5, x6 => if x6 < (x0.length : Int) then (if 0 ≤ x6 then (if ((rd_L1 x0 x6).length : Int) = x5 then (if x6 < (x3.length : Int) then (culletlaw11_GenerSquare.j3 k x0 x3 x5 x6 (((rd_L1 x3 x6).length : Int) != x5)) else (none)) else (culletlaw11_GenerSquare.j3 k x0 x3 x5 x6 true)) else (none)) else ((culletlaw11_copied.f k x3).bind fun t112 => ((gener_Systematic.f k t112).bind fun bt115 => (if bt115.2 = 0 then ((culletlaw11_equal.f k bt115.1 x3).bind fun t119 => (some t119)) else (some false))))
def culletlaw11_GenerSquare.j3 : Nat → List (List Int) → List (List Int) → Int → Int → Bool → Option (Bool)
 | 0, _, _, _, _, _ => none
 | k + 1, x0, x3, x5, x6, x83 => if x83 = true then (some false) else (culletlaw11_GenerSquare.l1 k x0 x3 x5 x6 0)
def culletlaw11_GenerSquare.l1 : Nat → List (List Int) → List (List Int) → Int → Int → Int → Option (Bool)
 | 0, _, _, _, _, _ => none
 | k + 1, x0, x3, x5, x6, x7 => if x7 < x5 then (culletlaw11_GenerSquare.l2 k x0 x3 x5 x6 x7 0 0) else (culletlaw11_GenerSquare.l0 k x0 x3 x5 (wrap64 (x6 + 1)))
def culletlaw11_GenerSquare.l2 : Nat → List (List Int) → List (List Int) → Int → Int → Int → Int → Int → Option (Bool)
 | 0, _, _, _, _, _, _, _ => none
 | k + 1, x0, x3, x5, x6, x7, x8, x9 => if x9 < x5 then (if 0 ≤ x6 then (if x6 < (x3.length : Int) then (if 0 ≤ x9 then (if x9 < ((rd_L1 x3 x6).length : Int) then (if x9 < (x0.length : Int) then (if 0 ≤ x7 then (if x7 < ((rd_L1 x0 x9).length : Int) then ((gf8_Mul.f k (rd (rd_L1 x3 x6) x9) (rd (rd_L1 x0 x9) x7)).bind fun t126 => (culletlaw11_GenerSquare.l2 k x0 x3 x5 x6 x7 (Go.bits .xor .u8 x8 t126) (wrap64 (x9 + 1)))) else (none)) else (none)) else (none)) else (none)) else (none)) else (none)) else (none)) else (if 0 ≤ x6 then (if x6 < (x0.length : Int) then (if 0 ≤ x7 then (if x7 < ((rd_L1 x0 x6).length : Int) then (if x8 = (rd (rd_L1 x0 x6) x7) then (if x6 < x5 then (if x6 < (x3.length : Int) then (if x7 < ((rd_L1 x3 x6).length : Int) then (if (((rd (rd_L1 x3 x6) x7) != 0) != (x6 == x7)) = true then (some false) else (if x6 = x7 then (if (rd (rd_L1 x3 x6) x7) = 1 then (culletlaw11_GenerSquare.l1 k x0 x3 x5 x6 (wrap64 (x7 + 1))) else (some false)) else (culletlaw11_GenerSquare.l1 k x0 x3 x5 x6 (wrap64 (x7 + 1))))) else (none)) else (none)) else (culletlaw11_GenerSquare.l1 k x0 x3 x5 x6 (wrap64 (x7 + 1)))) else (some false)) else (none)) else (none)) else (none)) else (none))
end
def culletlaw11_GenerSquare.f (k : Nat) (l0 : List (List Int)) : Option (Bool) := (culletlaw11_awake.f k).bind fun t101 => (if t101 = true then (if (l0.length : Int) > 40 then (culletlaw11_GenerSquare.j0 k l0 true) else (if (l0.length : Int) < 1 then (culletlaw11_GenerSquare.j0 k l0 true) else (if 0 < (l0.length : Int) then (if ((rd_L1 l0 0).length : Int) > 40 then (culletlaw11_GenerSquare.j0 k l0 true) else (culletlaw11_GenerSquare.j0 k l0 (decide (((rd_L1 l0 0).length : Int) < 1)))) else (none)))) else (some false))
theorem culletlaw11_GenerSquare.mono_l : ∀ k, (∀ y0 y1, LeO (culletlaw11_GenerSquare.j0 k y0 y1) (culletlaw11_GenerSquare.j0 (k + 1) y0 y1)) ∧ (∀ y0 y1 y2 y3, LeO (culletlaw11_GenerSquare.j1 k y0 y1 y2 y3) (culletlaw11_GenerSquare.j1 (k + 1) y0 y1 y2 y3)) ∧ (∀ y0 y1 y2 y3, LeO (culletlaw11_GenerSquare.l0 k y0 y1 y2 y3) (culletlaw11_GenerSquare.l0 (k + 1) y0 y1 y2 y3)) ∧ (∀ y0 y1 y2 y3 y4, LeO (culletlaw11_GenerSquare.j3 k y0 y1 y2 y3 y4) (culletlaw11_GenerSquare.j3 (k + 1) y0 y1 y2 y3 y4)) ∧ (∀ y0 y1 y2 y3 y4, LeO (culletlaw11_GenerSquare.l1 k y0 y1 y2 y3 y4) (culletlaw11_GenerSquare.l1 (k + 1) y0 y1 y2 y3 y4)) ∧ (∀ y0 y1 y2 y3 y4 y5 y6, LeO (culletlaw11_GenerSquare.l2 k y0 y1 y2 y3 y4 y5 y6) (culletlaw11_GenerSquare.l2 (k + 1) y0 y1 y2 y3 y4 y5 y6))
 | 0 => ⟨fun _ _ r h => by simp [culletlaw11_GenerSquare.j0] at h, fun _ _ _ _ r h => by simp [culletlaw11_GenerSquare.j1] at h, fun _ _ _ _ r h => by simp [culletlaw11_GenerSquare.l0] at h, fun _ _ _ _ _ r h => by simp [culletlaw11_GenerSquare.j3] at h, fun _ _ _ _ _ r h => by simp [culletlaw11_GenerSquare.l1] at h, fun _ _ _ _ _ _ _ r h => by simp [culletlaw11_GenerSquare.l2] at h⟩
 | k + 1 => by
  obtain ⟨ih0, ih1, ih2, ih3, ih4, ih5⟩ := culletlaw11_GenerSquare.mono_l k
  refine ⟨?_, ?_, ?_, ?_, ?_, ?_⟩
  ·intro y0 y1
   unfold culletlaw11_GenerSquare.j0
   repeat' first
   | (with_reducible exact ih0 _ _)
   | (with_reducible exact ih1 _ _ _ _)
   | (with_reducible exact ih2 _ _ _ _)
   | (with_reducible exact ih3 _ _ _ _ _)
   | (with_reducible exact ih4 _ _ _ _ _)
   | (with_reducible exact ih5 _ _ _ _ _ _ _)
   | (with_reducible exact culletlaw11_awake.mono _)
   | (with_reducible exact culletlaw11_copied.mono _ _)
   | (with_reducible exact culletlaw11_equal.mono _ _ _)
   | (with_reducible exact gener_Systematic.mono _ _)
   | (with_reducible exact gf8_Mul.mono _ _ _)
   | (with_reducible exact LeO.refl _)
   | (with_reducible exact LeO.none _)
   | (with_reducible refine LeO.ite ?_ ?_)
   | (with_reducible refine LeO.bind ?_ (fun _ => ?_))
   | exact ih0 _ _
   | exact ih1 _ _ _ _
   | exact ih2 _ _ _ _
   | exact ih3 _ _ _ _ _
   | exact ih4 _ _ _ _ _
   | exact ih5 _ _ _ _ _ _ _
   | exact culletlaw11_awake.mono _
   | exact culletlaw11_copied.mono _ _
   | exact culletlaw11_equal.mono _ _ _
   | exact gener_Systematic.mono _ _
   | exact gf8_Mul.mono _ _ _
   | exact LeO.none _
   | refine LeO.ite ?_ ?_
   | refine LeO.bind ?_ (fun _ => ?_)
  ·intro y0 y1 y2 y3
   unfold culletlaw11_GenerSquare.j1
   repeat' first
   | (with_reducible exact ih0 _ _)
   | (with_reducible exact ih1 _ _ _ _)
   | (with_reducible exact ih2 _ _ _ _)
   | (with_reducible exact ih3 _ _ _ _ _)
   | (with_reducible exact ih4 _ _ _ _ _)
   | (with_reducible exact ih5 _ _ _ _ _ _ _)
   | (with_reducible exact culletlaw11_awake.mono _)
   | (with_reducible exact culletlaw11_copied.mono _ _)
   | (with_reducible exact culletlaw11_equal.mono _ _ _)
   | (with_reducible exact gener_Systematic.mono _ _)
   | (with_reducible exact gf8_Mul.mono _ _ _)
   | (with_reducible exact LeO.refl _)
   | (with_reducible exact LeO.none _)
   | (with_reducible refine LeO.ite ?_ ?_)
   | (with_reducible refine LeO.bind ?_ (fun _ => ?_))
   | exact ih0 _ _
   | exact ih1 _ _ _ _
   | exact ih2 _ _ _ _
   | exact ih3 _ _ _ _ _
   | exact ih4 _ _ _ _ _
   | exact ih5 _ _ _ _ _ _ _
   | exact culletlaw11_awake.mono _
   | exact culletlaw11_copied.mono _ _
   | exact culletlaw11_equal.mono _ _ _
   | exact gener_Systematic.mono _ _
   | exact gf8_Mul.mono _ _ _
   | exact LeO.none _
   | refine LeO.ite ?_ ?_
   | refine LeO.bind ?_ (fun _ => ?_)
  ·intro y0 y1 y2 y3
   unfold culletlaw11_GenerSquare.l0
   repeat' first
   | (with_reducible exact ih0 _ _)
   | (with_reducible exact ih1 _ _ _ _)
   | (with_reducible exact ih2 _ _ _ _)
   | (with_reducible exact ih3 _ _ _ _ _)
   | (with_reducible exact ih4 _ _ _ _ _)
   | (with_reducible exact ih5 _ _ _ _ _ _ _)
   | (with_reducible exact culletlaw11_awake.mono _)
   | (with_reducible exact culletlaw11_copied.mono _ _)
   | (with_reducible exact culletlaw11_equal.mono _ _ _)
   | (with_reducible exact gener_Systematic.mono _ _)
   | (with_reducible exact gf8_Mul.mono _ _ _)
   | (with_reducible exact LeO.refl _)
   | (with_reducible exact LeO.none _)
   | (with_reducible refine LeO.ite ?_ ?_)
   | (with_reducible refine LeO.bind ?_ (fun _ => ?_))
   | exact ih0 _ _
   | exact ih1 _ _ _ _
   | exact ih2 _ _ _ _
   | exact ih3 _ _ _ _ _
   | exact ih4 _ _ _ _ _
   | exact ih5 _ _ _ _ _ _ _
   | exact culletlaw11_awake.mono _
   | exact culletlaw11_copied.mono _ _
   | exact culletlaw11_equal.mono _ _ _
   | exact gener_Systematic.mono _ _
   | exact gf8_Mul.mono _ _ _
   | exact LeO.none _
   | refine LeO.ite ?_ ?_
   | refine LeO.bind ?_ (fun _ => ?_)
  ·intro y0 y1 y2 y3 y4
   unfold culletlaw11_GenerSquare.j3
   repeat' first
   | (with_reducible exact ih0 _ _)
   | (with_reducible exact ih1 _ _ _ _)
   | (with_reducible exact ih2 _ _ _ _)
   | (with_reducible exact ih3 _ _ _ _ _)
   | (with_reducible exact ih4 _ _ _ _ _)
   | (with_reducible exact ih5 _ _ _ _ _ _ _)
   | (with_reducible exact culletlaw11_awake.mono _)
   | (with_reducible exact culletlaw11_copied.mono _ _)
   | (with_reducible exact culletlaw11_equal.mono _ _ _)
   | (with_reducible exact gener_Systematic.mono _ _)
   | (with_reducible exact gf8_Mul.mono _ _ _)
   | (with_reducible exact LeO.refl _)
   | (with_reducible exact LeO.none _)
   | (with_reducible refine LeO.ite ?_ ?_)
   | (with_reducible refine LeO.bind ?_ (fun _ => ?_))
   | exact ih0 _ _
   | exact ih1 _ _ _ _
   | exact ih2 _ _ _ _
   | exact ih3 _ _ _ _ _
   | exact ih4 _ _ _ _ _
   | exact ih5 _ _ _ _ _ _ _
   | exact culletlaw11_awake.mono _
   | exact culletlaw11_copied.mono _ _
   | exact culletlaw11_equal.mono _ _ _
   | exact gener_Systematic.mono _ _
   | exact gf8_Mul.mono _ _ _
   | exact LeO.none _
   | refine LeO.ite ?_ ?_
   | refine LeO.bind ?_ (fun _ => ?_)
  ·intro y0 y1 y2 y3 y4
   unfold culletlaw11_GenerSquare.l1
   repeat' first
   | (with_reducible exact ih0 _ _)
   | (with_reducible exact ih1 _ _ _ _)
   | (with_reducible exact ih2 _ _ _ _)
   | (with_reducible exact ih3 _ _ _ _ _)
   | (with_reducible exact ih4 _ _ _ _ _)
   | (with_reducible exact ih5 _ _ _ _ _ _ _)
   | (with_reducible exact culletlaw11_awake.mono _)
   | (with_reducible exact culletlaw11_copied.mono _ _)
   | (with_reducible exact culletlaw11_equal.mono _ _ _)
   | (with_reducible exact gener_Systematic.mono _ _)
   | (with_reducible exact gf8_Mul.mono _ _ _)
   | (with_reducible exact LeO.refl _)
   | (with_reducible exact LeO.none _)
   | (with_reducible refine LeO.ite ?_ ?_)
   | (with_reducible refine LeO.bind ?_ (fun _ => ?_))
   | exact ih0 _ _
   | exact ih1 _ _ _ _
   | exact ih2 _ _ _ _
   | exact ih3 _ _ _ _ _
   | exact ih4 _ _ _ _ _
   | exact ih5 _ _ _ _ _ _ _
   | exact culletlaw11_awake.mono _
   | exact culletlaw11_copied.mono _ _
   | exact culletlaw11_equal.mono _ _ _
   | exact gener_Systematic.mono _ _
   | exact gf8_Mul.mono _ _ _
   | exact LeO.none _
   | refine LeO.ite ?_ ?_
   | refine LeO.bind ?_ (fun _ => ?_)
  ·intro y0 y1 y2 y3 y4 y5 y6
   unfold culletlaw11_GenerSquare.l2
   repeat' first
   | (with_reducible exact ih0 _ _)
   | (with_reducible exact ih1 _ _ _ _)
   | (with_reducible exact ih2 _ _ _ _)
   | (with_reducible exact ih3 _ _ _ _ _)
   | (with_reducible exact ih4 _ _ _ _ _)
   | (with_reducible exact ih5 _ _ _ _ _ _ _)
   | (with_reducible exact culletlaw11_awake.mono _)
   | (with_reducible exact culletlaw11_copied.mono _ _)
   | (with_reducible exact culletlaw11_equal.mono _ _ _)
   | (with_reducible exact gener_Systematic.mono _ _)
   | (with_reducible exact gf8_Mul.mono _ _ _)
   | (with_reducible exact LeO.refl _)
   | (with_reducible exact LeO.none _)
   | (with_reducible refine LeO.ite ?_ ?_)
   | (with_reducible refine LeO.bind ?_ (fun _ => ?_))
   | exact ih0 _ _
   | exact ih1 _ _ _ _
   | exact ih2 _ _ _ _
   | exact ih3 _ _ _ _ _
   | exact ih4 _ _ _ _ _
   | exact ih5 _ _ _ _ _ _ _
   | exact culletlaw11_awake.mono _
   | exact culletlaw11_copied.mono _ _
   | exact culletlaw11_equal.mono _ _ _
   | exact gener_Systematic.mono _ _
   | exact gf8_Mul.mono _ _ _
   | exact LeO.none _
   | refine LeO.ite ?_ ?_
   | refine LeO.bind ?_ (fun _ => ?_)
theorem culletlaw11_GenerSquare.mono : ∀ a0 k, LeO (culletlaw11_GenerSquare.f k a0) (culletlaw11_GenerSquare.f (k + 1) a0) := by
 intro a0 k
 obtain ⟨ih0, ih1, ih2, ih3, ih4, ih5⟩ := culletlaw11_GenerSquare.mono_l k
 unfold culletlaw11_GenerSquare.f
 repeat' first
   | (with_reducible exact ih0 _ _)
   | (with_reducible exact ih1 _ _ _ _)
   | (with_reducible exact ih2 _ _ _ _)
   | (with_reducible exact ih3 _ _ _ _ _)
   | (with_reducible exact ih4 _ _ _ _ _)
   | (with_reducible exact ih5 _ _ _ _ _ _ _)
   | (with_reducible exact culletlaw11_awake.mono _)
   | (with_reducible exact culletlaw11_copied.mono _ _)
   | (with_reducible exact culletlaw11_equal.mono _ _ _)
   | (with_reducible exact gener_Systematic.mono _ _)
   | (with_reducible exact gf8_Mul.mono _ _ _)
   | (with_reducible exact LeO.refl _)
   | (with_reducible exact LeO.none _)
   | (with_reducible refine LeO.ite ?_ ?_)
   | (with_reducible refine LeO.bind ?_ (fun _ => ?_))
   | exact ih0 _ _
   | exact ih1 _ _ _ _
   | exact ih2 _ _ _ _
   | exact ih3 _ _ _ _ _
   | exact ih4 _ _ _ _ _
   | exact ih5 _ _ _ _ _ _ _
   | exact culletlaw11_awake.mono _
   | exact culletlaw11_copied.mono _ _
   | exact culletlaw11_equal.mono _ _ _
   | exact gener_Systematic.mono _ _
   | exact gf8_Mul.mono _ _ _
   | exact LeO.none _
   | refine LeO.ite ?_ ?_
   | refine LeO.bind ?_ (fun _ => ?_)
set_option maxHeartbeats 8000000 in
set_option maxRecDepth 100000 in
theorem culletlaw11_GenerSquare.calls (k : Nat) (A0 : Option Addr) (c0 : Nat) (l0 : List (List Int)) (r : Bool) (w : World) (hr0 : Kd.C (Kd.slice 5 (Kd.int .u8)) w A0 l0.length l0) (hc0 : l0.length ≤ c0) (h : culletlaw11_GenerSquare.f k l0 = some r) :
  Calls Try.prog 13 #[.slice A0 l0.length c0] w fun e w' => e = .returned (.bool r) ∧ Below w.heap.size w w' := by
 have HR0 := Aside0.mk hr0
 have HC0 := Aside0.mk hc0
 clear hr0 hc0
 have HB := Aside0.mk (Below.refl w.heap.size w)
 have H : ((culletlaw11_awake.f k).bind fun t101 => (if t101 = true then (if (l0.length : Int) > 40 then (culletlaw11_GenerSquare.j0 k l0 true) else (if (l0.length : Int) < 1 then (culletlaw11_GenerSquare.j0 k l0 true) else (if 0 < (l0.length : Int) then (if ((rd_L1 l0 0).length : Int) > 40 then (culletlaw11_GenerSquare.j0 k l0 true) else (culletlaw11_GenerSquare.j0 k l0 (decide (((rd_L1 l0 0).length : Int) < 1)))) else (none)))) else (some false))) = some r := h
 clear h
 replace H := Option.bind_eq_some_iff.mp H
 obtain ⟨t101, A20, H⟩ := H
 replace H : (if t101 = true then (if (l0.length : Int) > 40 then (culletlaw11_GenerSquare.j0 k l0 true) else (if (l0.length : Int) < 1 then (culletlaw11_GenerSquare.j0 k l0 true) else (if 0 < (l0.length : Int) then (if ((rd_L1 l0 0).length : Int) > 40 then (culletlaw11_GenerSquare.j0 k l0 true) else (culletlaw11_GenerSquare.j0 k l0 (decide (((rd_L1 l0 0).length : Int) < 1)))) else (none)))) else (some false)) = some r := H
 have A2 := Aside0.mk A20
 clear A20
 by_cases c3 : t101 = true
 ·subst c3
  have H1 : (if (l0.length : Int) > 40 then (culletlaw11_GenerSquare.j0 k l0 true) else (if (l0.length : Int) < 1 then (culletlaw11_GenerSquare.j0 k l0 true) else (if 0 < (l0.length : Int) then (if ((rd_L1 l0 0).length : Int) > 40 then (culletlaw11_GenerSquare.j0 k l0 true) else (culletlaw11_GenerSquare.j0 k l0 (decide (((rd_L1 l0 0).length : Int) < 1)))) else (none)))) = some r := by rw [if_pos rfl] at H; exact H
  clear H
  have H := H1
  clear H1
  have HC4 := Aside0.mk H
  clear H
  go_enter Try.func13, Try.ntmps13
  go_upto_region 3 with (first | (go_at_call 15; (with_reducible refine (culletlaw11_awake.calls k  true _ A2.out).mono ?_); rintro e w5 ⟨rfl, hb⟩; have n0_ := Aside0.mk (below_step (by repeat (first | (with_reducible first | exact HB.out | apply below_alloc | apply pw_below_drewN | apply below_drew1) | exact HB.out)) hb); clear HB; have HB := n0_; clear n0_; (try clear hb); (try clear hb2); (try clear hk); (try clear hi)))
  repeat (go_quiet (first | (go_at_call 15; (with_reducible refine (culletlaw11_awake.calls k  true _ A2.out).mono ?_); rintro e w5 ⟨rfl, hb⟩; have n0_ := Aside0.mk (below_step (by repeat (first | (with_reducible first | exact HB.out | apply below_alloc | apply pw_below_drewN | apply below_drew1) | exact HB.out)) hb); clear HB; have HB := n0_; clear n0_; (try clear hb); (try clear hb2); (try clear hk); (try clear hi))); go_upto_region 3 with (first | (go_at_call 15; (with_reducible refine (culletlaw11_awake.calls k  true _ A2.out).mono ?_); rintro e w5 ⟨rfl, hb⟩; have n0_ := Aside0.mk (below_step (by repeat (first | (with_reducible first | exact HB.out | apply below_alloc | apply pw_below_drewN | apply below_drew1) | exact HB.out)) hb); clear HB; have HB := n0_; clear n0_; (try clear hb); (try clear hb2); (try clear hk); (try clear hi))))
  (try simp only [Act.put, List.setIfInBounds_toArray, List.set_cons_zero, List.set_cons_succ])
  go_cut [35] (fun v35 wc => ∃ (kq : Nat) (x35_3 : Bool), v35 = .bool x35_3 ∧ Aside0 (culletlaw11_GenerSquare.j0 kq l0 x35_3 = some r) ∧ Aside0 (kq ≤ k) ∧ Aside0 (Below w.heap.size w wc))
  case first =>
   have H := HC4.out
   clear HC4
   by_cases c6 : (l0.length : Int) > 40
   ·rw [if_pos c6] at H
    have c6b0 : decide (40 < (l0.length : Int)) = true := decide_eq_true c6
    have c6b1 : decide (40 < l0.length) = true := decide_eq_true (by omega)
    clear c6
    (first | rw [c6b0] | (simp only [i64_w, i32_w]; rw [c6b0]) | skip)
    have H' := Aside0.mk H
    clear H
    go_wp2
    repeat (go_quiet (fail); try go_wp2)
    go_meet
    case rel => exact ⟨_, (true), (by first | rfl | (simp; done) | (simp [*]; done)), H', ⟨by first | omega | exact Nat.le_refl _⟩, ⟨by repeat (first | (with_reducible first | exact HB.out | apply below_alloc | apply pw_below_drewN | apply below_drew1) | exact HB.out)⟩⟩
   ·rw [if_neg c6] at H
    have c6b0 : decide (40 < (l0.length : Int)) = false := decide_eq_false c6
    have c6b1 : decide (40 < l0.length) = false := decide_eq_false (by omega)
    clear c6
    (first | rw [c6b0] | (simp only [i64_w, i32_w]; rw [c6b0]) | skip)
    by_cases c7 : (l0.length : Int) < 1
    ·rw [if_pos c7] at H
     have c7b0 : decide ((l0.length : Int) < 1) = true := decide_eq_true c7
     have c7b1 : decide (l0.length < 1) = true := decide_eq_true (by omega)
     clear c7
     have H' := Aside0.mk H
     clear H
     go_wp2
     repeat (go_quiet (fail); try go_wp2)
     go_meet
     case rel => exact ⟨_, (true), (by first | rfl | (simp; done) | (simp [*]; done)), H', ⟨by first | omega | exact Nat.le_refl _⟩, ⟨by repeat (first | (with_reducible first | exact HB.out | apply below_alloc | apply pw_below_drewN | apply below_drew1) | exact HB.out)⟩⟩
    ·rw [if_neg c7] at H
     have c7b0 : decide ((l0.length : Int) < 1) = false := decide_eq_false c7
     have c7b1 : decide (l0.length < 1) = false := decide_eq_false (by omega)
     clear c7
     by_cases c8 : 0 < (l0.length : Int)
     ·rw [if_pos c8] at H
      have c8b0 : decide (0 < (l0.length : Int)) = true := decide_eq_true c8
      have c8b1 : decide (0 < l0.length) = true := decide_eq_true (by omega)
      clear c8
      by_cases c9 : ((rd_L1 l0 0).length : Int) > 40
      ·rw [if_pos c9] at H
       have c9b0 : decide (40 < ((rd_L1 l0 0).length : Int)) = true := decide_eq_true c9
       have c9b1 : decide (40 < (rd_L1 l0 0).length) = true := decide_eq_true (by omega)
       clear c9
       have H' := Aside0.mk H
       clear H
       have p102 : 0 ≤ (0 : Int) := (by omega)
       have q102 : 0 < (l0.length : Int) := of_decide_eq_true (by first | (with_reducible assumption) | assumption)
       obtain ⟨ad102, A102_0, c102_0, e102, hx102_0, hl102_0, hi102_0⟩ := at_L1 HR0.out 0 p102 q102
       cases e102
       have qi102 : (0 < l0.length) = True := eq_true (by omega)
       (try rw [show ((0 : Int)).toNat = 0 from rfl] at hx102_0)
       (try rw [Addr.add_zero'] at hx102_0)
       replace hx102_0 := (HB.out.cell (World.block_lt_of_cell? w _ hx102_0)).trans hx102_0
       have HR102_0 := Aside0.mk hi102_0
       have HC102_0 := Aside0.mk hl102_0
       clear hi102_0 hl102_0
       replace p102 := eq_true p102
       replace q102 := eq_true q102
       go_wp2
       repeat (go_quiet (fail); try go_wp2)
       go_meet
       case rel => exact ⟨_, (true), (by first | rfl | (simp; done) | (simp [*]; done)), H', ⟨by first | omega | exact Nat.le_refl _⟩, ⟨by repeat (first | (with_reducible first | exact HB.out | apply below_alloc | apply pw_below_drewN | apply below_drew1) | exact HB.out)⟩⟩
      ·rw [if_neg c9] at H
       have c9b0 : decide (40 < ((rd_L1 l0 0).length : Int)) = false := decide_eq_false c9
       have c9b1 : decide (40 < (rd_L1 l0 0).length) = false := decide_eq_false (by omega)
       clear c9
       have H' := Aside0.mk H
       clear H
       have p102 : 0 ≤ (0 : Int) := (by omega)
       have q102 : 0 < (l0.length : Int) := of_decide_eq_true (by first | (with_reducible assumption) | assumption)
       obtain ⟨ad102, A102_0, c102_0, e102, hx102_0, hl102_0, hi102_0⟩ := at_L1 HR0.out 0 p102 q102
       cases e102
       have qi102 : (0 < l0.length) = True := eq_true (by omega)
       (try rw [show ((0 : Int)).toNat = 0 from rfl] at hx102_0)
       (try rw [Addr.add_zero'] at hx102_0)
       replace hx102_0 := (HB.out.cell (World.block_lt_of_cell? w _ hx102_0)).trans hx102_0
       have HR102_0 := Aside0.mk hi102_0
       have HC102_0 := Aside0.mk hl102_0
       clear hi102_0 hl102_0
       replace p102 := eq_true p102
       replace q102 := eq_true q102
       have p103 : 0 ≤ (0 : Int) := (by omega)
       have q103 : 0 < (l0.length : Int) := of_decide_eq_true (by first | (with_reducible assumption) | assumption)
       obtain ⟨ad103, A103_0, c103_0, e103, hx103_0, hl103_0, hi103_0⟩ := at_L1 HR0.out 0 p103 q103
       obtain rfl : ad102 = ad103 := (by injection e103)
       have qi103 : (0 < l0.length) = True := eq_true (by omega)
       (try rw [show ((0 : Int)).toNat = 0 from rfl] at hx103_0)
       (try rw [Addr.add_zero'] at hx103_0)
       replace hx103_0 := (HB.out.cell (World.block_lt_of_cell? w _ hx103_0)).trans hx103_0
       have HR103_0 := Aside0.mk hi103_0
       have HC103_0 := Aside0.mk hl103_0
       clear hi103_0 hl103_0
       replace p103 := eq_true p103
       replace q103 := eq_true q103
       have ea_ := Option.some.inj (hx102_0.symm.trans hx103_0)
       injection ea_ with ea_ en_ ec_
       subst ea_
       subst ec_
       clear en_
       go_wp2
       repeat (go_quiet (fail); try go_wp2)
       go_meet
       case rel => exact ⟨_, (decide (((rd_L1 l0 0).length : Int) < 1)), (by first | rfl | (simp; done) | (simp [*]; done)), H', ⟨by first | omega | exact Nat.le_refl _⟩, ⟨by repeat (first | (with_reducible first | exact HB.out | apply below_alloc | apply pw_below_drewN | apply below_drew1) | exact HB.out)⟩⟩
     ·rw [if_neg c8] at H
      exact absurd H (by simp)
  case rest =>
   clear HC4
   try clear c1
   try clear p1
   try clear q1
   try clear hx1
   try clear qi1
   try clear p2
   try clear c3
   try clear c6
   try clear c6b0
   try clear c6b1
   try clear c7
   try clear c7b0
   try clear c7b1
   try clear c8
   try clear c8b0
   try clear c8b1
   try clear c9
   try clear c9b0
   try clear c9b1
   try clear hx102_0
   try clear hx103_0
   try clear p102
   try clear p103
   try clear q102
   try clear q103
   obtain ⟨kq, x35_3, rfl, HA, HJ3, HB⟩ := hcut
   cases kq with
   | zero => exact absurd HA.out (by simp [culletlaw11_GenerSquare.j0])
   | succ kj3 =>
    have H := HA.out
    clear HA
    simp only [culletlaw11_GenerSquare.j0] at H
    by_cases c10 : x35_3 = true
    ·subst c10
     have H1 : (some true) = some r := by rw [if_pos rfl] at H; exact H
     clear H
     have H := H1
     clear H1
     obtain rfl := Option.some.inj H
     go_wp2
     repeat (go_quiet (fail); try go_wp2)
     go_ret
     exact ⟨by first | rfl | (simp [errW_none, errW_some] <;> rfl) | (simp [*, errW_none, errW_some] <;> rfl), by repeat (first | (with_reducible first | exact HB.out | apply below_alloc | apply pw_below_drewN | apply below_drew1) | exact HB.out)⟩
    ·replace c10 := Bool.eq_false_iff.mpr c10
     subst c10
     have H1 : ((culletlaw11_copied.f kj3 l0).bind fun t104 => ((gener_Systematic.f kj3 t104).bind fun bt107 => (if bt107.2 = 0 then (if 0 < (l0.length : Int) then (if (bt107.1.length : Int) = (l0.length : Int) then (culletlaw11_GenerSquare.j1 kj3 l0 bt107.1 ((rd_L1 l0 0).length : Int) (decide ((l0.length : Int) < ((rd_L1 l0 0).length : Int)))) else (culletlaw11_GenerSquare.j1 kj3 l0 bt107.1 ((rd_L1 l0 0).length : Int) true)) else (none)) else (some ((bt107.1.length : Int) == 0))))) = some r := by rw [if_neg (show ¬ (false = true) by decide)] at H; exact H
     clear H
     have H := H1
     clear H1
     replace H := Option.bind_eq_some_iff.mp H
     obtain ⟨t104, A110, H⟩ := H
     replace H : ((gener_Systematic.f kj3 t104).bind fun bt107 => (if bt107.2 = 0 then (if 0 < (l0.length : Int) then (if (bt107.1.length : Int) = (l0.length : Int) then (culletlaw11_GenerSquare.j1 kj3 l0 bt107.1 ((rd_L1 l0 0).length : Int) (decide ((l0.length : Int) < ((rd_L1 l0 0).length : Int)))) else (culletlaw11_GenerSquare.j1 kj3 l0 bt107.1 ((rd_L1 l0 0).length : Int) true)) else (none)) else (some ((bt107.1.length : Int) == 0)))) = some r := H
     have A11 := Aside0.mk A110
     clear A110
     replace H := Option.bind_eq_some_iff.mp H
     obtain ⟨⟨t107, t108⟩, A120, H⟩ := H
     replace H : (if t108 = 0 then (if 0 < (l0.length : Int) then (if (t107.length : Int) = (l0.length : Int) then (culletlaw11_GenerSquare.j1 kj3 l0 t107 ((rd_L1 l0 0).length : Int) (decide ((l0.length : Int) < ((rd_L1 l0 0).length : Int)))) else (culletlaw11_GenerSquare.j1 kj3 l0 t107 ((rd_L1 l0 0).length : Int) true)) else (none)) else (some ((t107.length : Int) == 0))) = some r := H
     have A12 := Aside0.mk A120
     clear A120
     by_cases c13 : t108 = 0
     ·rw [if_pos c13] at H
      have c13b0 : (t108 == 0) = true := beq_iff_eq.mpr c13
      have c13b1 : (t108 != 0) = false := bne_eq_false_iff_eq.mpr c13
      clear c13
      by_cases c14 : 0 < (l0.length : Int)
      ·rw [if_pos c14] at H
       have c14b0 : decide (0 < (l0.length : Int)) = true := decide_eq_true c14
       have c14b1 : decide (0 < l0.length) = true := decide_eq_true (by omega)
       clear c14
       have HC15 := Aside0.mk H
       clear H
       go_upto_region 9 with (first | (go_at_call 32; (with_reducible refine (culletlaw11_copied.calls kj3 _ _ l0 t104 _ ?side1 ?side2 A11.out).mono ?_); (case side1 => repeat (first | exact (Kd.C_below HR0.out HB.out) | (with_reducible refine Kd.C_alloc ?_ _) | (with_reducible refine Kd.C_drewN ?_ _) | (with_reducible refine Kd.C_drew ?_))); (case side2 => exact HC0.out); rintro e w16 ⟨v105, rfl, ho0, hb⟩; have n0_ := Aside0.mk (Kd.S_lower ho0 (below_size (by repeat (first | (with_reducible first | exact HB.out | apply below_alloc | apply pw_below_drewN | apply below_drew1) | exact HB.out)))); have n1_ := Aside0.mk (below_step (by repeat (first | (with_reducible first | exact HB.out | apply below_alloc | apply pw_below_drewN | apply below_drew1) | exact HB.out)) hb); clear HB; have HO106 := n0_; have HB := n1_; clear n0_ n1_; (try clear hb); (try clear hb2); (try clear hk); (try clear hi); (try clear ho0); obtain ⟨Ao17, co17, eo17⟩ := Kd.S_slice HO106.out; subst eo17) | (go_at_call 31; (with_reducible refine (gener_Systematic.calls kj3 _ _ t104 t107 t108 _ ?side1 ?side2 A12.out).mono ?_); (case side1 => repeat (first | exact (Kd.S_reads' HO106.out).2.2 | (with_reducible refine Kd.C_alloc ?_ _) | (with_reducible refine Kd.C_drewN ?_ _) | (with_reducible refine Kd.C_drew ?_))); (case side2 => exact (Kd.S_reads' HO106.out).2.1); rintro e w18 ⟨v109, rfl, ho0, hb⟩; have n0_ := Aside0.mk (Kd.S_elder' (by (with_reducible repeat (first | apply Kd.S_alloc | apply Kd.S_drewN | apply Kd.S_drew)); exact HO106.out) (Kd.S_base ho0) hb); have n1_ := Aside0.mk (Kd.S_lower (Kd.S_new' ho0 (Kd.S_lt (by (with_reducible repeat (first | apply Kd.S_alloc | apply Kd.S_drewN | apply Kd.S_drew)); exact HO106.out))) (below_size (by repeat (first | (with_reducible first | exact HB.out | apply below_alloc | apply pw_below_drewN | apply below_drew1) | exact HB.out)))); have n2_ := Aside0.mk (below_step (by repeat (first | (with_reducible first | exact HB.out | apply below_alloc | apply pw_below_drewN | apply below_drew1) | exact HB.out)) hb); clear HO106; clear HB; have HO106 := n0_; have HO110 := n1_; have HB := n2_; clear n0_ n1_ n2_; (try clear hb); (try clear hb2); (try clear hk); (try clear hi); (try clear ho0); have p111 : 0 ≤ (0 : Int) := (by omega); have q111 : 0 < (l0.length : Int) := of_decide_eq_true (by first | (with_reducible assumption) | assumption); obtain ⟨ad111, A111_0, c111_0, e111, hx111_0, hl111_0, hi111_0⟩ := at_L1 HR0.out 0 p111 q111; cases e111; have qi111 : (0 < l0.length) = True := eq_true (by omega); (try rw [show ((0 : Int)).toNat = 0 from rfl] at hx111_0); (try rw [Addr.add_zero'] at hx111_0); replace hx111_0 := (HB.out.cell (World.block_lt_of_cell? w _ hx111_0)).trans hx111_0; have HR111_0 := Aside0.mk hi111_0; have HC111_0 := Aside0.mk hl111_0; clear hi111_0 hl111_0; replace p111 := eq_true p111; replace q111 := eq_true q111))
       repeat (go_quiet (first | (go_at_call 32; (with_reducible refine (culletlaw11_copied.calls kj3 _ _ l0 t104 _ ?side1 ?side2 A11.out).mono ?_); (case side1 => repeat (first | exact (Kd.C_below HR0.out HB.out) | (with_reducible refine Kd.C_alloc ?_ _) | (with_reducible refine Kd.C_drewN ?_ _) | (with_reducible refine Kd.C_drew ?_))); (case side2 => exact HC0.out); rintro e w16 ⟨v105, rfl, ho0, hb⟩; have n0_ := Aside0.mk (Kd.S_lower ho0 (below_size (by repeat (first | (with_reducible first | exact HB.out | apply below_alloc | apply pw_below_drewN | apply below_drew1) | exact HB.out)))); have n1_ := Aside0.mk (below_step (by repeat (first | (with_reducible first | exact HB.out | apply below_alloc | apply pw_below_drewN | apply below_drew1) | exact HB.out)) hb); clear HB; have HO106 := n0_; have HB := n1_; clear n0_ n1_; (try clear hb); (try clear hb2); (try clear hk); (try clear hi); (try clear ho0); obtain ⟨Ao17, co17, eo17⟩ := Kd.S_slice HO106.out; subst eo17) | (go_at_call 31; (with_reducible refine (gener_Systematic.calls kj3 _ _ t104 t107 t108 _ ?side1 ?side2 A12.out).mono ?_); (case side1 => repeat (first | exact (Kd.S_reads' HO106.out).2.2 | (with_reducible refine Kd.C_alloc ?_ _) | (with_reducible refine Kd.C_drewN ?_ _) | (with_reducible refine Kd.C_drew ?_))); (case side2 => exact (Kd.S_reads' HO106.out).2.1); rintro e w18 ⟨v109, rfl, ho0, hb⟩; have n0_ := Aside0.mk (Kd.S_elder' (by (with_reducible repeat (first | apply Kd.S_alloc | apply Kd.S_drewN | apply Kd.S_drew)); exact HO106.out) (Kd.S_base ho0) hb); have n1_ := Aside0.mk (Kd.S_lower (Kd.S_new' ho0 (Kd.S_lt (by (with_reducible repeat (first | apply Kd.S_alloc | apply Kd.S_drewN | apply Kd.S_drew)); exact HO106.out))) (below_size (by repeat (first | (with_reducible first | exact HB.out | apply below_alloc | apply pw_below_drewN | apply below_drew1) | exact HB.out)))); have n2_ := Aside0.mk (below_step (by repeat (first | (with_reducible first | exact HB.out | apply below_alloc | apply pw_below_drewN | apply below_drew1) | exact HB.out)) hb); clear HO106; clear HB; have HO106 := n0_; have HO110 := n1_; have HB := n2_; clear n0_ n1_ n2_; (try clear hb); (try clear hb2); (try clear hk); (try clear hi); (try clear ho0); have p111 : 0 ≤ (0 : Int) := (by omega); have q111 : 0 < (l0.length : Int) := of_decide_eq_true (by first | (with_reducible assumption) | assumption); obtain ⟨ad111, A111_0, c111_0, e111, hx111_0, hl111_0, hi111_0⟩ := at_L1 HR0.out 0 p111 q111; cases e111; have qi111 : (0 < l0.length) = True := eq_true (by omega); (try rw [show ((0 : Int)).toNat = 0 from rfl] at hx111_0); (try rw [Addr.add_zero'] at hx111_0); replace hx111_0 := (HB.out.cell (World.block_lt_of_cell? w _ hx111_0)).trans hx111_0; have HR111_0 := Aside0.mk hi111_0; have HC111_0 := Aside0.mk hl111_0; clear hi111_0 hl111_0; replace p111 := eq_true p111; replace q111 := eq_true q111)); go_upto_region 9 with (first | (go_at_call 32; (with_reducible refine (culletlaw11_copied.calls kj3 _ _ l0 t104 _ ?side1 ?side2 A11.out).mono ?_); (case side1 => repeat (first | exact (Kd.C_below HR0.out HB.out) | (with_reducible refine Kd.C_alloc ?_ _) | (with_reducible refine Kd.C_drewN ?_ _) | (with_reducible refine Kd.C_drew ?_))); (case side2 => exact HC0.out); rintro e w16 ⟨v105, rfl, ho0, hb⟩; have n0_ := Aside0.mk (Kd.S_lower ho0 (below_size (by repeat (first | (with_reducible first | exact HB.out | apply below_alloc | apply pw_below_drewN | apply below_drew1) | exact HB.out)))); have n1_ := Aside0.mk (below_step (by repeat (first | (with_reducible first | exact HB.out | apply below_alloc | apply pw_below_drewN | apply below_drew1) | exact HB.out)) hb); clear HB; have HO106 := n0_; have HB := n1_; clear n0_ n1_; (try clear hb); (try clear hb2); (try clear hk); (try clear hi); (try clear ho0); obtain ⟨Ao17, co17, eo17⟩ := Kd.S_slice HO106.out; subst eo17) | (go_at_call 31; (with_reducible refine (gener_Systematic.calls kj3 _ _ t104 t107 t108 _ ?side1 ?side2 A12.out).mono ?_); (case side1 => repeat (first | exact (Kd.S_reads' HO106.out).2.2 | (with_reducible refine Kd.C_alloc ?_ _) | (with_reducible refine Kd.C_drewN ?_ _) | (with_reducible refine Kd.C_drew ?_))); (case side2 => exact (Kd.S_reads' HO106.out).2.1); rintro e w18 ⟨v109, rfl, ho0, hb⟩; have n0_ := Aside0.mk (Kd.S_elder' (by (with_reducible repeat (first | apply Kd.S_alloc | apply Kd.S_drewN | apply Kd.S_drew)); exact HO106.out) (Kd.S_base ho0) hb); have n1_ := Aside0.mk (Kd.S_lower (Kd.S_new' ho0 (Kd.S_lt (by (with_reducible repeat (first | apply Kd.S_alloc | apply Kd.S_drewN | apply Kd.S_drew)); exact HO106.out))) (below_size (by repeat (first | (with_reducible first | exact HB.out | apply below_alloc | apply pw_below_drewN | apply below_drew1) | exact HB.out)))); have n2_ := Aside0.mk (below_step (by repeat (first | (with_reducible first | exact HB.out | apply below_alloc | apply pw_below_drewN | apply below_drew1) | exact HB.out)) hb); clear HO106; clear HB; have HO106 := n0_; have HO110 := n1_; have HB := n2_; clear n0_ n1_ n2_; (try clear hb); (try clear hb2); (try clear hk); (try clear hi); (try clear ho0); have p111 : 0 ≤ (0 : Int) := (by omega); have q111 : 0 < (l0.length : Int) := of_decide_eq_true (by first | (with_reducible assumption) | assumption); obtain ⟨ad111, A111_0, c111_0, e111, hx111_0, hl111_0, hi111_0⟩ := at_L1 HR0.out 0 p111 q111; cases e111; have qi111 : (0 < l0.length) = True := eq_true (by omega); (try rw [show ((0 : Int)).toNat = 0 from rfl] at hx111_0); (try rw [Addr.add_zero'] at hx111_0); replace hx111_0 := (HB.out.cell (World.block_lt_of_cell? w _ hx111_0)).trans hx111_0; have HR111_0 := Aside0.mk hi111_0; have HC111_0 := Aside0.mk hl111_0; clear hi111_0 hl111_0; replace p111 := eq_true p111; replace q111 := eq_true q111)))
       (try simp only [Act.put, List.setIfInBounds_toArray, List.set_cons_zero, List.set_cons_succ])
       go_cut [61] (fun v61 wc => ∃ (kq : Nat) (x61_14 : Bool), v61 = .bool x61_14 ∧ Aside0 (culletlaw11_GenerSquare.j1 kq l0 t107 ((rd_L1 l0 0).length : Int) x61_14 = some r) ∧ Aside0 (kq ≤ kj3) ∧ Aside0 (Kd.S (Kd.slice 5 (Kd.int .u8)) 22 wc w.heap.size (fun _ => True) v109 t107) ∧ Aside0 (Below w.heap.size w wc))
       case first =>
        have H := HC15.out
        clear HC15
        by_cases c19 : (t107.length : Int) = (l0.length : Int)
        ·rw [if_pos c19] at H
         have c19b0 : ((t107.length : Int) == (l0.length : Int)) = true := beq_iff_eq.mpr c19
         have c19b1 : ((t107.length : Int) != (l0.length : Int)) = false := bne_eq_false_iff_eq.mpr c19
         have c19b2 : (t107.length == l0.length) = true := by first | simpa using c19 | (simp at c19 ⊢; omega)
         clear c19
         (first | rw [c19b0] | (simp only [i64_w, i32_w]; rw [c19b0]) | skip)
         have H' := Aside0.mk H
         clear H
         obtain ⟨Ao20, co20, eo20⟩ := Kd.S_slice HO110.out
         subst eo20
         go_wp2
         repeat (go_quiet (fail); try go_wp2)
         go_meet
         case rel => exact ⟨_, (decide ((l0.length : Int) < ((rd_L1 l0 0).length : Int))), (by first | rfl | (simp; done) | (simp [*]; done)), H', ⟨by have := HJ3.out; first | omega | exact Nat.le_refl _⟩, ⟨by (with_reducible repeat (first | apply Kd.S_alloc | apply Kd.S_drewN | apply Kd.S_drew)); exact Kd.S_mono HO110.out (fun _ hk => trivial)⟩, ⟨by repeat (first | (with_reducible first | exact HB.out | apply below_alloc | apply pw_below_drewN | apply below_drew1) | exact HB.out)⟩⟩
        ·rw [if_neg c19] at H
         have c19b0 : ((t107.length : Int) == (l0.length : Int)) = false := beq_eq_false_iff_ne.mpr c19
         have c19b1 : ((t107.length : Int) != (l0.length : Int)) = true := bne_iff_ne.mpr c19
         have c19b2 : (t107.length == l0.length) = false := by first | simpa using c19 | (simp at c19 ⊢; omega)
         (first | rw [c19b0] | (simp only [i64_w, i32_w]; rw [c19b0]) | skip)
         have H' := Aside0.mk H
         clear H
         obtain ⟨Ao21, co21, eo21⟩ := Kd.S_slice HO110.out
         subst eo21
         go_wp2
         repeat (go_quiet (fail); try go_wp2)
         go_meet
         case rel => exact ⟨_, (true), (by first | rfl | (simp; done) | (simp [*]; done)), H', ⟨by have := HJ3.out; first | omega | exact Nat.le_refl _⟩, ⟨by (with_reducible repeat (first | apply Kd.S_alloc | apply Kd.S_drewN | apply Kd.S_drew)); exact Kd.S_mono HO110.out (fun _ hk => trivial)⟩, ⟨by repeat (first | (with_reducible first | exact HB.out | apply below_alloc | apply pw_below_drewN | apply below_drew1) | exact HB.out)⟩⟩
       case rest =>
        clear HC15
        try clear c1
        try clear p1
        try clear q1
        try clear hx1
        try clear qi1
        try clear p2
        try clear c3
        try clear c6
        try clear c6b0
        try clear c6b1
        try clear c7
        try clear c7b0
        try clear c7b1
        try clear c8
        try clear c8b0
        try clear c8b1
        try clear c9
        try clear c9b0
        try clear c9b1
        try clear c10
        try clear p10
        try clear q10
        try clear hx10
        try clear qi10
        try clear c11
        try clear p11
        try clear q11
        try clear hx11
        try clear qi11
        try clear c13
        try clear c13b0
        try clear c13b1
        try clear c14
        try clear c14b0
        try clear c14b1
        try clear c19
        try clear c19b0
        try clear c19b1
        try clear c19b2
        try clear hx102_0
        try clear hx103_0
        try clear hx111_0
        try clear p1
        try clear p102
        try clear p103
        try clear p111
        try clear p2
        try clear q1
        try clear q102
        try clear q103
        try clear q111
        obtain ⟨kq, x61_14, rfl, HA, HJ14, HO_3, HB⟩ := hcut
        cases kq with
        | zero => exact absurd HA.out (by simp [culletlaw11_GenerSquare.j1])
        | succ kj14 =>
         have H := HA.out
         clear HA
         simp only [culletlaw11_GenerSquare.j1] at H
         by_cases c22 : x61_14 = true
         ·subst c22
          have H1 : (some false) = some r := by rw [if_pos rfl] at H; exact H
          clear H
          have H := H1
          clear H1
          obtain rfl := Option.some.inj H
          go_wp2
          repeat (go_quiet (fail); try go_wp2)
          go_ret
          exact ⟨by first | rfl | (simp [errW_none, errW_some] <;> rfl) | (simp [*, errW_none, errW_some] <;> rfl), by repeat (first | (with_reducible first | exact HB.out | apply below_alloc | apply pw_below_drewN | apply below_drew1) | exact HB.out)⟩
         ·replace c22 := Bool.eq_false_iff.mpr c22
          subst c22
          have H1 : (culletlaw11_GenerSquare.l0 kj14 l0 t107 ((rd_L1 l0 0).length : Int) 0) = some r := by rw [if_neg (show ¬ (false = true) by decide)] at H; exact H
          clear H
          have H := H1
          clear H1
          have H' := Aside0.mk H
          clear H
          go_wp2
          repeat (go_quiet (fail); try go_wp2)
          go_loopg [6] kj14 (fun kq v6 w' => ∃ (x6_3 : Int), v6 = .int .i64 x6_3 ∧ Aside0 (culletlaw11_GenerSquare.l0 kq l0 t107 ((rd_L1 l0 0).length : Int) x6_3 = some r) ∧ Aside0 (kq ≤ kj14) ∧ Aside0 (Kd.S (Kd.slice 5 (Kd.int .u8)) 22 w' w.heap.size (fun _ => True) v109 t107) ∧ Aside0 (Below w.heap.size w w'))
          case atStart => exact ⟨(0), (by first | rfl | (simp; done) | (simp [*]; done)), H', ⟨Nat.le_refl _⟩, ⟨by (with_reducible repeat (first | apply Kd.S_alloc | apply Kd.S_drewN | apply Kd.S_drew)); exact HO_3.out⟩, ⟨by repeat (first | (with_reducible first | exact HB.out | apply below_alloc | apply pw_below_drewN | apply below_drew1) | exact HB.out)⟩⟩
          case round =>
           clear H'
           try clear c1
           try clear p1
           try clear q1
           try clear hx1
           try clear qi1
           try clear c2
           try clear p2
           try clear c3
           try clear c6
           try clear c6b0
           try clear c6b1
           try clear c7
           try clear c7b0
           try clear c7b1
           try clear c8
           try clear c8b0
           try clear c8b1
           try clear c9
           try clear c9b0
           try clear c9b1
           try clear c10
           try clear p10
           try clear q10
           try clear hx10
           try clear qi10
           try clear c11
           try clear p11
           try clear q11
           try clear hx11
           try clear qi11
           try clear c13
           try clear c13b0
           try clear c13b1
           try clear c14
           try clear c14b0
           try clear c14b1
           try clear c19
           try clear c19b0
           try clear c19b1
           try clear c19b2
           try clear c22
           try clear hx102_0
           try clear hx103_0
           try clear hx111_0
           try clear p1
           try clear p10
           try clear p102
           try clear p103
           try clear p11
           try clear p111
           try clear p2
           try clear q1
           try clear q10
           try clear q102
           try clear q103
           try clear q11
           try clear q111
           obtain ⟨x6_3, rfl, HA, HK3, HO_3, HB⟩ := hrel
           cases gk with
           | zero => exact absurd HA.out (by simp [culletlaw11_GenerSquare.l0])
           | succ k3 =>
            have H := HA.out
            clear HA
            simp only [culletlaw11_GenerSquare.l0] at H
            by_cases c23 : x6_3 < (l0.length : Int)
            ·rw [if_pos c23] at H
             have c23b0 : decide (x6_3 < (l0.length : Int)) = true := decide_eq_true c23
             clear c23
             have HC24 := Aside0.mk H
             clear H
             go_upto_region 14 with (fail)
             repeat (go_quiet (fail); go_upto_region 14 with (fail))
             go_cut [83] (fun v83 wc => ∃ (kq : Nat) (x83_23 : Bool), v83 = .bool x83_23 ∧ Aside0 (culletlaw11_GenerSquare.j3 kq l0 t107 ((rd_L1 l0 0).length : Int) x6_3 x83_23 = some r) ∧ Aside0 (kq ≤ k3) ∧ Aside0 (Kd.S (Kd.slice 5 (Kd.int .u8)) 22 wc w.heap.size (fun _ => True) v109 t107) ∧ Aside0 (Below w.heap.size w wc))
             case first =>
              have H := HC24.out
              clear HC24
              by_cases c25 : 0 ≤ x6_3
              ·rw [if_pos c25] at H
               have c25b0 : decide (0 ≤ x6_3) = true := decide_eq_true c25
               clear c25
               (first | rw [c25b0] | (simp only [i64_w, i32_w]; rw [c25b0]) | skip)
               by_cases c26 : ((rd_L1 l0 x6_3).length : Int) = ((rd_L1 l0 0).length : Int)
               ·rw [if_pos c26] at H
                have c26b0 : (((rd_L1 l0 x6_3).length : Int) == ((rd_L1 l0 0).length : Int)) = true := beq_iff_eq.mpr c26
                have c26b1 : (((rd_L1 l0 x6_3).length : Int) != ((rd_L1 l0 0).length : Int)) = false := bne_eq_false_iff_eq.mpr c26
                have c26b2 : ((rd_L1 l0 x6_3).length == (rd_L1 l0 0).length) = true := by first | simpa using c26 | (simp at c26 ⊢; omega)
                clear c26
                by_cases c27 : x6_3 < (t107.length : Int)
                ·rw [if_pos c27] at H
                 have c27b0 : decide (x6_3 < (t107.length : Int)) = true := decide_eq_true c27
                 clear c27
                 have H' := Aside0.mk H
                 clear H
                 have p120 : 0 ≤ (x6_3 : Int) := of_decide_eq_true (by first | (with_reducible assumption) | assumption)
                 have q120 : x6_3 < (l0.length : Int) := of_decide_eq_true (by first | (with_reducible assumption) | assumption)
                 obtain ⟨ad120, A120_0, c120_0, e120, hx120_0, hl120_0, hi120_0⟩ := at_L1 HR0.out x6_3 p120 q120
                 obtain rfl : ad111 = ad120 := (by injection e120)
                 replace hx120_0 := (HB.out.cell (World.block_lt_of_cell? w _ hx120_0)).trans hx120_0
                 have HR120_0 := Aside0.mk hi120_0
                 have HC120_0 := Aside0.mk hl120_0
                 clear hi120_0 hl120_0
                 replace p120 := eq_true p120
                 replace q120 := eq_true q120
                 obtain ⟨Ao28, co28, eo28⟩ := Kd.S_slice HO_3.out
                 subst eo28
                 have p121 : 0 ≤ (x6_3 : Int) := of_decide_eq_true (by first | (with_reducible assumption) | assumption)
                 have q121 : x6_3 < (t107.length : Int) := of_decide_eq_true (by first | (with_reducible assumption) | assumption)
                 obtain ⟨ad121, A121_0, c121_0, e121, hx121_0, hl121_0, hi121_0⟩ := at_L1 (Kd.S_reads' HO_3.out).2.2 x6_3 p121 q121
                 cases e121
                 obtain ⟨ce121, hce121, hMe121, hcc121⟩ := Kd.S_get HO_3.out [] x6_3 p121 (by first | exact q121 | exact of_decide_eq_true (by first | (with_reducible assumption) | assumption) | (have e_ := (Kd.S_reads' HO_3.out).1; omega))
                 obtain ⟨ve121_0, rfl, ge121_0⟩ := hMe121
                 have hv121_0 := hcc121 0 _ rfl
                 rw [Nat.add_zero, show ((Kd.slice 5 (Kd.int .u8))).sz = 1 from rfl, Nat.mul_one] at hv121_0
                 replace hv121_0 := Option.some.inj (hv121_0.symm.trans hx121_0)
                 rw [hv121_0] at ge121_0
                 have HL121_0 := Aside0.mk (show Kd.R (Kd.int .u8) 5 _ _ _ _ (rd_L1 t107 x6_3) from ge121_0)
                 clear hv121_0 ge121_0
                 clear hcc121 hce121
                 have HR121_0 := Aside0.mk hi121_0
                 have HC121_0 := Aside0.mk hl121_0
                 clear hi121_0 hl121_0
                 replace p121 := eq_true p121
                 replace q121 := eq_true q121
                 go_wp2
                 repeat (go_quiet (fail); try go_wp2)
                 go_meet
                 case rel => exact ⟨_, ((((rd_L1 t107 x6_3).length : Int) != ((rd_L1 l0 0).length : Int))), (by first | rfl | (simp; done) | (simp [*]; done)), H', ⟨by have := HJ3.out; have := HJ14.out; have := HK3.out; first | omega | exact Nat.le_refl _⟩, ⟨by (with_reducible repeat (first | apply Kd.S_alloc | apply Kd.S_drewN | apply Kd.S_drew)); exact HO_3.out⟩, ⟨by repeat (first | (with_reducible first | exact HB.out | apply below_alloc | apply pw_below_drewN | apply below_drew1) | exact HB.out)⟩⟩
                ·rw [if_neg c27] at H
                 exact absurd H (by simp)
               ·rw [if_neg c26] at H
                have c26b0 : (((rd_L1 l0 x6_3).length : Int) == ((rd_L1 l0 0).length : Int)) = false := beq_eq_false_iff_ne.mpr c26
                have c26b1 : (((rd_L1 l0 x6_3).length : Int) != ((rd_L1 l0 0).length : Int)) = true := bne_iff_ne.mpr c26
                have c26b2 : ((rd_L1 l0 x6_3).length == (rd_L1 l0 0).length) = false := by first | simpa using c26 | (simp at c26 ⊢; omega)
                have H' := Aside0.mk H
                clear H
                have p120 : 0 ≤ (x6_3 : Int) := of_decide_eq_true (by first | (with_reducible assumption) | assumption)
                have q120 : x6_3 < (l0.length : Int) := of_decide_eq_true (by first | (with_reducible assumption) | assumption)
                obtain ⟨ad120, A120_0, c120_0, e120, hx120_0, hl120_0, hi120_0⟩ := at_L1 HR0.out x6_3 p120 q120
                obtain rfl : ad111 = ad120 := (by injection e120)
                replace hx120_0 := (HB.out.cell (World.block_lt_of_cell? w _ hx120_0)).trans hx120_0
                have HR120_0 := Aside0.mk hi120_0
                have HC120_0 := Aside0.mk hl120_0
                clear hi120_0 hl120_0
                replace p120 := eq_true p120
                replace q120 := eq_true q120
                go_wp2
                repeat (go_quiet (fail); try go_wp2)
                go_meet
                case rel => exact ⟨_, (true), (by first | rfl | (simp; done) | (simp [*]; done)), H', ⟨by have := HJ3.out; have := HJ14.out; have := HK3.out; first | omega | exact Nat.le_refl _⟩, ⟨by (with_reducible repeat (first | apply Kd.S_alloc | apply Kd.S_drewN | apply Kd.S_drew)); exact HO_3.out⟩, ⟨by repeat (first | (with_reducible first | exact HB.out | apply below_alloc | apply pw_below_drewN | apply below_drew1) | exact HB.out)⟩⟩
              ·rw [if_neg c25] at H
               exact absurd H (by simp)
             case rest =>
              clear HC24
              try clear c1
              try clear p1
              try clear q1
              try clear hx1
              try clear qi1
              try clear c2
              try clear p2
              try clear c3
              try clear c6
              try clear c6b0
              try clear c6b1
              try clear c7
              try clear c7b0
              try clear c7b1
              try clear c8
              try clear c8b0
              try clear c8b1
              try clear c9
              try clear c9b0
              try clear c9b1
              try clear c10
              try clear p10
              try clear q10
              try clear hx10
              try clear qi10
              try clear c11
              try clear p11
              try clear q11
              try clear hx11
              try clear qi11
              try clear c12
              try clear p12
              try clear q12
              try clear hx12
              try clear c13
              try clear c13b0
              try clear c13b1
              try clear c14
              try clear c14b0
              try clear c14b1
              try clear c19
              try clear c19b0
              try clear c19b1
              try clear c19b2
              try clear c22
              try clear c23
              try clear c23b0
              try clear c25
              try clear c25b0
              try clear c26
              try clear c26b0
              try clear c26b1
              try clear c26b2
              try clear c27
              try clear c27b0
              try clear hx102_0
              try clear hx103_0
              try clear hx111_0
              try clear hx120_0
              try clear hx121_0
              try clear p1
              try clear p10
              try clear p102
              try clear p103
              try clear p11
              try clear p111
              try clear p120
              try clear p121
              try clear p2
              try clear q1
              try clear q10
              try clear q102
              try clear q103
              try clear q11
              try clear q111
              try clear q120
              try clear q121
              obtain ⟨kq, x83_23, rfl, HA, HJ23, HO_3, HB⟩ := hcut
              cases kq with
              | zero => exact absurd HA.out (by simp [culletlaw11_GenerSquare.j3])
              | succ kj23 =>
               have H := HA.out
               clear HA
               simp only [culletlaw11_GenerSquare.j3] at H
               by_cases c29 : x83_23 = true
               ·subst c29
                have H1 : (some false) = some r := by rw [if_pos rfl] at H; exact H
                clear H
                have H := H1
                clear H1
                obtain rfl := Option.some.inj H
                go_wp2
                repeat (go_quiet (fail); try go_wp2)
                go_ret
                exact ⟨by first | rfl | (simp [errW_none, errW_some] <;> rfl) | (simp [*, errW_none, errW_some] <;> rfl), by repeat (first | (with_reducible first | exact HB.out | apply below_alloc | apply pw_below_drewN | apply below_drew1) | exact HB.out)⟩
               ·replace c29 := Bool.eq_false_iff.mpr c29
                subst c29
                have H1 : (culletlaw11_GenerSquare.l1 kj23 l0 t107 ((rd_L1 l0 0).length : Int) x6_3 0) = some r := by rw [if_neg (show ¬ (false = true) by decide)] at H; exact H
                clear H
                have H := H1
                clear H1
                have H' := Aside0.mk H
                clear H
                go_wp2
                repeat (go_quiet (fail); try go_wp2)
                go_loopg [7] kj23 (fun kq v7 w' => ∃ (x7_5 : Int), v7 = .int .i64 x7_5 ∧ Aside0 (culletlaw11_GenerSquare.l1 kq l0 t107 ((rd_L1 l0 0).length : Int) x6_3 x7_5 = some r) ∧ Aside0 (kq ≤ kj23) ∧ Aside0 (Kd.S (Kd.slice 5 (Kd.int .u8)) 22 w' w.heap.size (fun _ => True) v109 t107) ∧ Aside0 (Below w.heap.size w w'))
                case atStart => exact ⟨(0), (by first | rfl | (simp; done) | (simp [*]; done)), H', ⟨Nat.le_refl _⟩, ⟨by (with_reducible repeat (first | apply Kd.S_alloc | apply Kd.S_drewN | apply Kd.S_drew)); exact HO_3.out⟩, ⟨by repeat (first | (with_reducible first | exact HB.out | apply below_alloc | apply pw_below_drewN | apply below_drew1) | exact HB.out)⟩⟩
                case round =>
                 clear H'
                 try clear c1
                 try clear p1
                 try clear q1
                 try clear hx1
                 try clear qi1
                 try clear c2
                 try clear p2
                 try clear c3
                 try clear c6
                 try clear c6b0
                 try clear c6b1
                 try clear c7
                 try clear c7b0
                 try clear c7b1
                 try clear c8
                 try clear c8b0
                 try clear c8b1
                 try clear c9
                 try clear c9b0
                 try clear c9b1
                 try clear c10
                 try clear p10
                 try clear q10
                 try clear hx10
                 try clear qi10
                 try clear c11
                 try clear p11
                 try clear q11
                 try clear hx11
                 try clear qi11
                 try clear c12
                 try clear p12
                 try clear q12
                 try clear hx12
                 try clear c13
                 try clear c13b0
                 try clear c13b1
                 try clear c14
                 try clear c14b0
                 try clear c14b1
                 try clear c19
                 try clear c19b0
                 try clear c19b1
                 try clear c19b2
                 try clear c22
                 try clear c23
                 try clear c23b0
                 try clear c25
                 try clear c25b0
                 try clear c26
                 try clear c26b0
                 try clear c26b1
                 try clear c26b2
                 try clear c27
                 try clear c27b0
                 try clear c29
                 try clear hx102_0
                 try clear hx103_0
                 try clear hx111_0
                 try clear hx120_0
                 try clear hx121_0
                 try clear p1
                 try clear p10
                 try clear p102
                 try clear p103
                 try clear p11
                 try clear p111
                 try clear p12
                 try clear p120
                 try clear p121
                 try clear p2
                 try clear q1
                 try clear q10
                 try clear q102
                 try clear q103
                 try clear q11
                 try clear q111
                 try clear q12
                 try clear q120
                 try clear q121
                 obtain ⟨x7_5, rfl, HA, HK5, HO_3, HB⟩ := hrel
                 cases gk with
                 | zero => exact absurd HA.out (by simp [culletlaw11_GenerSquare.l1])
                 | succ k5 =>
                  have H := HA.out
                  clear HA
                  simp only [culletlaw11_GenerSquare.l1] at H
                  by_cases c30 : x7_5 < ((rd_L1 l0 0).length : Int)
                  ·rw [if_pos c30] at H
                   have c30b0 : decide (x7_5 < ((rd_L1 l0 0).length : Int)) = true := decide_eq_true c30
                   clear c30
                   have H' := Aside0.mk H
                   clear H
                   go_wp2
                   repeat (go_quiet (fail); try go_wp2)
                   go_loopg [8, 9] k5 (fun kq v8 v9 w' => ∃ (x8_6 : Int) (x9_6 : Int), v8 = .int .u8 x8_6 ∧ v9 = .int .i64 x9_6 ∧ Aside0 (culletlaw11_GenerSquare.l2 kq l0 t107 ((rd_L1 l0 0).length : Int) x6_3 x7_5 x8_6 x9_6 = some r) ∧ Aside0 (kq ≤ k5) ∧ Aside0 (Kd.S (Kd.slice 5 (Kd.int .u8)) 22 w' w.heap.size (fun _ => True) v109 t107) ∧ Aside0 (Below w.heap.size w w'))
                   case atStart => exact ⟨(0), (0), (by first | rfl | (simp; done) | (simp [*]; done)), (by first | rfl | (simp; done) | (simp [*]; done)), H', ⟨Nat.le_refl _⟩, ⟨by (with_reducible repeat (first | apply Kd.S_alloc | apply Kd.S_drewN | apply Kd.S_drew)); exact HO_3.out⟩, ⟨by repeat (first | (with_reducible first | exact HB.out | apply below_alloc | apply pw_below_drewN | apply below_drew1) | exact HB.out)⟩⟩
                   case round =>
                    clear H'
                    try clear c1
                    try clear p1
                    try clear q1
                    try clear hx1
                    try clear qi1
                    try clear c2
                    try clear p2
                    try clear c3
                    try clear c6
                    try clear c6b0
                    try clear c6b1
                    try clear c7
                    try clear c7b0
                    try clear c7b1
                    try clear c8
                    try clear c8b0
                    try clear c8b1
                    try clear c9
                    try clear c9b0
                    try clear c9b1
                    try clear c10
                    try clear p10
                    try clear q10
                    try clear hx10
                    try clear qi10
                    try clear c11
                    try clear p11
                    try clear q11
                    try clear hx11
                    try clear qi11
                    try clear c12
                    try clear p12
                    try clear q12
                    try clear hx12
                    try clear c13
                    try clear c13b0
                    try clear c13b1
                    try clear c14
                    try clear c14b0
                    try clear c14b1
                    try clear c19
                    try clear c19b0
                    try clear c19b1
                    try clear c19b2
                    try clear c22
                    try clear c23
                    try clear c23b0
                    try clear c25
                    try clear c25b0
                    try clear c26
                    try clear c26b0
                    try clear c26b1
                    try clear c26b2
                    try clear c27
                    try clear c27b0
                    try clear c29
                    try clear c30
                    try clear c30b0
                    try clear hx102_0
                    try clear hx103_0
                    try clear hx111_0
                    try clear hx120_0
                    try clear hx121_0
                    try clear p1
                    try clear p10
                    try clear p102
                    try clear p103
                    try clear p11
                    try clear p111
                    try clear p12
                    try clear p120
                    try clear p121
                    try clear p2
                    try clear q1
                    try clear q10
                    try clear q102
                    try clear q103
                    try clear q11
                    try clear q111
                    try clear q12
                    try clear q120
                    try clear q121
                    obtain ⟨x8_6, x9_6, rfl, rfl, HA, HK6, HO_3, HB⟩ := hrel
                    cases gk with
                    | zero => exact absurd HA.out (by simp [culletlaw11_GenerSquare.l2])
                    | succ k6 =>
                     have H := HA.out
                     clear HA
                     simp only [culletlaw11_GenerSquare.l2] at H
                     by_cases c31 : x9_6 < ((rd_L1 l0 0).length : Int)
                     ·rw [if_pos c31] at H
                      have c31b0 : decide (x9_6 < ((rd_L1 l0 0).length : Int)) = true := decide_eq_true c31
                      clear c31
                      by_cases c32 : 0 ≤ x6_3
                      ·rw [if_pos c32] at H
                       have c32b0 : decide (0 ≤ x6_3) = true := decide_eq_true c32
                       clear c32
                       by_cases c33 : x6_3 < (t107.length : Int)
                       ·rw [if_pos c33] at H
                        have c33b0 : decide (x6_3 < (t107.length : Int)) = true := decide_eq_true c33
                        clear c33
                        by_cases c34 : 0 ≤ x9_6
                        ·rw [if_pos c34] at H
                         have c34b0 : decide (0 ≤ x9_6) = true := decide_eq_true c34
                         clear c34
                         by_cases c35 : x9_6 < ((rd_L1 t107 x6_3).length : Int)
                         ·rw [if_pos c35] at H
                          have c35b0 : decide (x9_6 < ((rd_L1 t107 x6_3).length : Int)) = true := decide_eq_true c35
                          clear c35
                          by_cases c36 : x9_6 < (l0.length : Int)
                          ·rw [if_pos c36] at H
                           have c36b0 : decide (x9_6 < (l0.length : Int)) = true := decide_eq_true c36
                           clear c36
                           by_cases c37 : 0 ≤ x7_5
                           ·rw [if_pos c37] at H
                            have c37b0 : decide (0 ≤ x7_5) = true := decide_eq_true c37
                            clear c37
                            by_cases c38 : x7_5 < ((rd_L1 l0 x9_6).length : Int)
                            ·rw [if_pos c38] at H
                             have c38b0 : decide (x7_5 < ((rd_L1 l0 x9_6).length : Int)) = true := decide_eq_true c38
                             clear c38
                             replace H := Option.bind_eq_some_iff.mp H
                             obtain ⟨t126, A390, H⟩ := H
                             replace H : (culletlaw11_GenerSquare.l2 k6 l0 t107 ((rd_L1 l0 0).length : Int) x6_3 x7_5 (Go.bits .xor .u8 x8_6 t126) (wrap64 (x9_6 + 1))) = some r := H
                             have A39 := Aside0.mk A390
                             clear A390
                             have H' := Aside0.mk H
                             clear H
                             obtain ⟨Ao40, co40, eo40⟩ := Kd.S_slice HO_3.out
                             subst eo40
                             have p122 : 0 ≤ (x6_3 : Int) := of_decide_eq_true (by first | (with_reducible assumption) | assumption)
                             have q122 : x6_3 < (t107.length : Int) := of_decide_eq_true (by first | (with_reducible assumption) | assumption)
                             obtain ⟨ad122, A122_0, c122_0, e122, hx122_0, hl122_0, hi122_0⟩ := at_L1 (Kd.S_reads' HO_3.out).2.2 x6_3 p122 q122
                             cases e122
                             obtain ⟨ce122, hce122, hMe122, hcc122⟩ := Kd.S_get HO_3.out [] x6_3 p122 (by first | exact q122 | exact of_decide_eq_true (by first | (with_reducible assumption) | assumption) | (have e_ := (Kd.S_reads' HO_3.out).1; omega))
                             obtain ⟨ve122_0, rfl, ge122_0⟩ := hMe122
                             have hv122_0 := hcc122 0 _ rfl
                             rw [Nat.add_zero, show ((Kd.slice 5 (Kd.int .u8))).sz = 1 from rfl, Nat.mul_one] at hv122_0
                             replace hv122_0 := Option.some.inj (hv122_0.symm.trans hx122_0)
                             rw [hv122_0] at ge122_0
                             have HL122_0 := Aside0.mk (show Kd.R (Kd.int .u8) 5 _ _ _ _ (rd_L1 t107 x6_3) from ge122_0)
                             clear hv122_0 ge122_0
                             clear hcc122 hce122
                             have HR122_0 := Aside0.mk hi122_0
                             have HC122_0 := Aside0.mk hl122_0
                             clear hi122_0 hl122_0
                             replace p122 := eq_true p122
                             replace q122 := eq_true q122
                             have p123 : 0 ≤ (x9_6 : Int) := of_decide_eq_true (by first | (with_reducible assumption) | assumption)
                             have q123 : x9_6 < ((rd_L1 t107 x6_3).length : Int) := of_decide_eq_true (by first | (with_reducible assumption) | assumption)
                             obtain ⟨ad123, e123, hx123_0⟩ := Kd.at_int (by repeat (first | (with_reducible exact HR122_0.out) | (with_reducible refine Kd.C_alloc ?_ _) | (with_reducible refine Kd.C_drewN ?_ _) | (with_reducible refine Kd.C_drew ?_) | exact HR122_0.out)) x9_6 p123 q123
                             cases e123
                             replace p123 := eq_true p123
                             replace q123 := eq_true q123
                             have p124 : 0 ≤ (x9_6 : Int) := of_decide_eq_true (by first | (with_reducible assumption) | assumption)
                             have q124 : x9_6 < (l0.length : Int) := of_decide_eq_true (by first | (with_reducible assumption) | assumption)
                             obtain ⟨ad124, A124_0, c124_0, e124, hx124_0, hl124_0, hi124_0⟩ := at_L1 HR0.out x9_6 p124 q124
                             obtain rfl : ad111 = ad124 := (by injection e124)
                             replace hx124_0 := (HB.out.cell (World.block_lt_of_cell? w _ hx124_0)).trans hx124_0
                             have HR124_0 := Aside0.mk hi124_0
                             have HC124_0 := Aside0.mk hl124_0
                             clear hi124_0 hl124_0
                             replace p124 := eq_true p124
                             replace q124 := eq_true q124
                             have p125 : 0 ≤ (x7_5 : Int) := of_decide_eq_true (by first | (with_reducible assumption) | assumption)
                             have q125 : x7_5 < ((rd_L1 l0 x9_6).length : Int) := of_decide_eq_true (by first | (with_reducible assumption) | assumption)
                             obtain ⟨ad125, e125, hx125_0⟩ := Kd.at_int HR124_0.out x7_5 p125 q125
                             cases e125
                             replace hx125_0 := (HB.out.cell (World.block_lt_of_cell? w _ hx125_0)).trans hx125_0
                             replace p125 := eq_true p125
                             replace q125 := eq_true q125
                             go_wp2_with (first | (go_at_call 18; (with_reducible refine (gf8_Mul.calls k6 (rd (rd_L1 t107 x6_3) x9_6) (rd (rd_L1 l0 x9_6) x7_5) t126 _ A39.out).mono ?_); rintro e w' ⟨rfl, ⟨nd, rfl⟩⟩; (try first | exact ⟨rfl, _, World.drewN_drewN _ _ _⟩ | exact ⟨rfl, _, Eq.trans (World.drewN_drewN _ _ _) (congrArg (World.drewN _) (Nat.add_assoc _ _ _))⟩)))
                             repeat (go_quiet (first | (go_at_call 18; (with_reducible refine (gf8_Mul.calls k6 (rd (rd_L1 t107 x6_3) x9_6) (rd (rd_L1 l0 x9_6) x7_5) t126 _ A39.out).mono ?_); rintro e w' ⟨rfl, ⟨nd, rfl⟩⟩; (try first | exact ⟨rfl, _, World.drewN_drewN _ _ _⟩ | exact ⟨rfl, _, Eq.trans (World.drewN_drewN _ _ _) (congrArg (World.drewN _) (Nat.add_assoc _ _ _))⟩))); try go_wp2_with (first | (go_at_call 18; (with_reducible refine (gf8_Mul.calls k6 (rd (rd_L1 t107 x6_3) x9_6) (rd (rd_L1 l0 x9_6) x7_5) t126 _ A39.out).mono ?_); rintro e w' ⟨rfl, ⟨nd, rfl⟩⟩; (try first | exact ⟨rfl, _, World.drewN_drewN _ _ _⟩ | exact ⟨rfl, _, Eq.trans (World.drewN_drewN _ _ _) (congrArg (World.drewN _) (Nat.add_assoc _ _ _))⟩))))
                             go_roundg k6
                             case measure => have := HJ3.out; have := HJ14.out; have := HK3.out; have := HJ23.out; have := HK5.out; have := HK6.out; omega
                             case rel => exact ⟨(Go.bits .xor .u8 x8_6 t126), (wrap64 (x9_6 + 1)), (by first | rfl | (simp; done) | (simp [*]; done)), (by first | rfl | (simp; done) | (simp [*]; done)), H', ⟨by have := HJ3.out; have := HJ14.out; have := HK3.out; have := HJ23.out; have := HK5.out; have := HK6.out; omega⟩, ⟨by (with_reducible repeat (first | apply Kd.S_alloc | apply Kd.S_drewN | apply Kd.S_drew)); exact HO_3.out⟩, ⟨by repeat (first | (with_reducible first | exact HB.out | apply below_alloc | apply pw_below_drewN | apply below_drew1) | exact HB.out)⟩⟩
                            ·rw [if_neg c38] at H
                             exact absurd H (by simp)
                           ·rw [if_neg c37] at H
                            exact absurd H (by simp)
                          ·rw [if_neg c36] at H
                           exact absurd H (by simp)
                         ·rw [if_neg c35] at H
                          exact absurd H (by simp)
                        ·rw [if_neg c34] at H
                         exact absurd H (by simp)
                       ·rw [if_neg c33] at H
                        exact absurd H (by simp)
                      ·rw [if_neg c32] at H
                       exact absurd H (by simp)
                     ·rw [if_neg c31] at H
                      have c31b0 : decide (x9_6 < ((rd_L1 l0 0).length : Int)) = false := decide_eq_false c31
                      clear c31
                      by_cases c41 : 0 ≤ x6_3
                      ·rw [if_pos c41] at H
                       have c41b0 : decide (0 ≤ x6_3) = true := decide_eq_true c41
                       clear c41
                       by_cases c42 : x6_3 < (l0.length : Int)
                       ·rw [if_pos c42] at H
                        have c42b0 : decide (x6_3 < (l0.length : Int)) = true := decide_eq_true c42
                        clear c42
                        by_cases c43 : 0 ≤ x7_5
                        ·rw [if_pos c43] at H
                         have c43b0 : decide (0 ≤ x7_5) = true := decide_eq_true c43
                         clear c43
                         by_cases c44 : x7_5 < ((rd_L1 l0 x6_3).length : Int)
                         ·rw [if_pos c44] at H
                          have c44b0 : decide (x7_5 < ((rd_L1 l0 x6_3).length : Int)) = true := decide_eq_true c44
                          clear c44
                          by_cases c45 : x8_6 = (rd (rd_L1 l0 x6_3) x7_5)
                          ·rw [if_pos c45] at H
                           have c45b0 : (x8_6 == (rd (rd_L1 l0 x6_3) x7_5)) = true := beq_iff_eq.mpr c45
                           have c45b1 : (x8_6 != (rd (rd_L1 l0 x6_3) x7_5)) = false := bne_eq_false_iff_eq.mpr c45
                           clear c45
                           by_cases c46 : x6_3 < ((rd_L1 l0 0).length : Int)
                           ·rw [if_pos c46] at H
                            have c46b0 : decide (x6_3 < ((rd_L1 l0 0).length : Int)) = true := decide_eq_true c46
                            clear c46
                            by_cases c47 : x6_3 < (t107.length : Int)
                            ·rw [if_pos c47] at H
                             have c47b0 : decide (x6_3 < (t107.length : Int)) = true := decide_eq_true c47
                             clear c47
                             by_cases c48 : x7_5 < ((rd_L1 t107 x6_3).length : Int)
                             ·rw [if_pos c48] at H
                              have c48b0 : decide (x7_5 < ((rd_L1 t107 x6_3).length : Int)) = true := decide_eq_true c48
                              clear c48
                              by_cases c49 : (((rd (rd_L1 t107 x6_3) x7_5) != 0) != (x6_3 == x7_5)) = true
                              ·rw [if_pos c49] at H
                               have c49b0 : (((rd (rd_L1 t107 x6_3) x7_5) != 0) != (x6_3 == x7_5)) = true := c49
                               (try (have c49b1 : decide (((rd (rd_L1 t107 x6_3) x7_5) != 0) = (x6_3 == x7_5)) = false := by simpa using c49))
                               (try (have c49b2 : (((rd (rd_L1 t107 x6_3) x7_5) != 0) == (x6_3 == x7_5)) = false := by simpa using c49))
                               (try (have c49b3 : ¬ (((rd (rd_L1 t107 x6_3) x7_5) != 0) = (x6_3 == x7_5)) := by simpa using c49))
                               clear c49
                               obtain rfl := Option.some.inj H
                               have p127 : 0 ≤ (x6_3 : Int) := of_decide_eq_true (by first | (with_reducible assumption) | assumption)
                               have q127 : x6_3 < (l0.length : Int) := of_decide_eq_true (by first | (with_reducible assumption) | assumption)
                               obtain ⟨ad127, A127_0, c127_0, e127, hx127_0, hl127_0, hi127_0⟩ := at_L1 HR0.out x6_3 p127 q127
                               obtain rfl : ad111 = ad127 := (by injection e127)
                               replace hx127_0 := (HB.out.cell (World.block_lt_of_cell? w _ hx127_0)).trans hx127_0
                               have HR127_0 := Aside0.mk hi127_0
                               have HC127_0 := Aside0.mk hl127_0
                               clear hi127_0 hl127_0
                               replace p127 := eq_true p127
                               replace q127 := eq_true q127
                               have p128 : 0 ≤ (x7_5 : Int) := of_decide_eq_true (by first | (with_reducible assumption) | assumption)
                               have q128 : x7_5 < ((rd_L1 l0 x6_3).length : Int) := of_decide_eq_true (by first | (with_reducible assumption) | assumption)
                               obtain ⟨ad128, e128, hx128_0⟩ := Kd.at_int HR127_0.out x7_5 p128 q128
                               cases e128
                               replace hx128_0 := (HB.out.cell (World.block_lt_of_cell? w _ hx128_0)).trans hx128_0
                               replace p128 := eq_true p128
                               replace q128 := eq_true q128
                               obtain ⟨Ao50, co50, eo50⟩ := Kd.S_slice HO_3.out
                               subst eo50
                               have p129 : 0 ≤ (x6_3 : Int) := of_decide_eq_true (by first | (with_reducible assumption) | assumption)
                               have q129 : x6_3 < (t107.length : Int) := of_decide_eq_true (by first | (with_reducible assumption) | assumption)
                               obtain ⟨ad129, A129_0, c129_0, e129, hx129_0, hl129_0, hi129_0⟩ := at_L1 (Kd.S_reads' HO_3.out).2.2 x6_3 p129 q129
                               cases e129
                               obtain ⟨ce129, hce129, hMe129, hcc129⟩ := Kd.S_get HO_3.out [] x6_3 p129 (by first | exact q129 | exact of_decide_eq_true (by first | (with_reducible assumption) | assumption) | (have e_ := (Kd.S_reads' HO_3.out).1; omega))
                               obtain ⟨ve129_0, rfl, ge129_0⟩ := hMe129
                               have hv129_0 := hcc129 0 _ rfl
                               rw [Nat.add_zero, show ((Kd.slice 5 (Kd.int .u8))).sz = 1 from rfl, Nat.mul_one] at hv129_0
                               replace hv129_0 := Option.some.inj (hv129_0.symm.trans hx129_0)
                               rw [hv129_0] at ge129_0
                               have HL129_0 := Aside0.mk (show Kd.R (Kd.int .u8) 5 _ _ _ _ (rd_L1 t107 x6_3) from ge129_0)
                               clear hv129_0 ge129_0
                               clear hcc129 hce129
                               have HR129_0 := Aside0.mk hi129_0
                               have HC129_0 := Aside0.mk hl129_0
                               clear hi129_0 hl129_0
                               replace p129 := eq_true p129
                               replace q129 := eq_true q129
                               have p130 : 0 ≤ (x7_5 : Int) := of_decide_eq_true (by first | (with_reducible assumption) | assumption)
                               have q130 : x7_5 < ((rd_L1 t107 x6_3).length : Int) := of_decide_eq_true (by first | (with_reducible assumption) | assumption)
                               obtain ⟨ad130, e130, hx130_0⟩ := Kd.at_int (by repeat (first | (with_reducible exact HR129_0.out) | (with_reducible refine Kd.C_alloc ?_ _) | (with_reducible refine Kd.C_drewN ?_ _) | (with_reducible refine Kd.C_drew ?_) | exact HR129_0.out)) x7_5 p130 q130
                               cases e130
                               replace p130 := eq_true p130
                               replace q130 := eq_true q130
                               go_wp2
                               repeat (go_quiet (fail); try go_wp2)
                               go_ret
                               exact ⟨by first | rfl | (simp [errW_none, errW_some] <;> rfl) | (simp [*, errW_none, errW_some] <;> rfl), by repeat (first | (with_reducible first | exact HB.out | apply below_alloc | apply pw_below_drewN | apply below_drew1) | exact HB.out)⟩
                              ·rw [if_neg c49] at H
                               have c49b0 : (((rd (rd_L1 t107 x6_3) x7_5) != 0) != (x6_3 == x7_5)) = false := by simpa using c49
                               (try (have c49b1 : decide (((rd (rd_L1 t107 x6_3) x7_5) != 0) = (x6_3 == x7_5)) = true := by simpa using c49))
                               (try (have c49b2 : (((rd (rd_L1 t107 x6_3) x7_5) != 0) == (x6_3 == x7_5)) = true := by simpa using c49))
                               clear c49
                               by_cases c51 : x6_3 = x7_5
                               ·rw [if_pos c51] at H
                                have c51b0 : (x6_3 == x7_5) = true := beq_iff_eq.mpr c51
                                have c49z0 : ((rd (rd_L1 t107 x6_3) x7_5) != 0) = true := by (have h := c49b0; rw [c51b0] at h; cases hz : ((rd (rd_L1 t107 x6_3) x7_5) != 0) <;> rw [hz] at h <;> first | rfl | exact absurd h (by decide))
                                have c49z1 : ((rd (rd_L1 t107 x6_3) x7_5) == 0) = false := by (have h := c49z0; cases hz : ((rd (rd_L1 t107 x6_3) x7_5) == 0) <;> first | rfl | (exfalso; rw [show ((rd (rd_L1 t107 x6_3) x7_5) != 0) = !((rd (rd_L1 t107 x6_3) x7_5) == 0) from rfl, hz] at h; exact absurd h (by decide)))
                                have c51b1 : (x6_3 != x7_5) = false := bne_eq_false_iff_eq.mpr c51
                                clear c51
                                by_cases c52 : (rd (rd_L1 t107 x6_3) x7_5) = 1
                                ·rw [if_pos c52] at H
                                 have c52b0 : ((rd (rd_L1 t107 x6_3) x7_5) == 1) = true := beq_iff_eq.mpr c52
                                 have c52b1 : ((rd (rd_L1 t107 x6_3) x7_5) != 1) = false := bne_eq_false_iff_eq.mpr c52
                                 clear c52
                                 have H' := Aside0.mk H
                                 clear H
                                 have p127 : 0 ≤ (x6_3 : Int) := of_decide_eq_true (by first | (with_reducible assumption) | assumption)
                                 have q127 : x6_3 < (l0.length : Int) := of_decide_eq_true (by first | (with_reducible assumption) | assumption)
                                 obtain ⟨ad127, A127_0, c127_0, e127, hx127_0, hl127_0, hi127_0⟩ := at_L1 HR0.out x6_3 p127 q127
                                 obtain rfl : ad111 = ad127 := (by injection e127)
                                 replace hx127_0 := (HB.out.cell (World.block_lt_of_cell? w _ hx127_0)).trans hx127_0
                                 have HR127_0 := Aside0.mk hi127_0
                                 have HC127_0 := Aside0.mk hl127_0
                                 clear hi127_0 hl127_0
                                 replace p127 := eq_true p127
                                 replace q127 := eq_true q127
                                 have p128 : 0 ≤ (x7_5 : Int) := of_decide_eq_true (by first | (with_reducible assumption) | assumption)
                                 have q128 : x7_5 < ((rd_L1 l0 x6_3).length : Int) := of_decide_eq_true (by first | (with_reducible assumption) | assumption)
                                 obtain ⟨ad128, e128, hx128_0⟩ := Kd.at_int HR127_0.out x7_5 p128 q128
                                 cases e128
                                 replace hx128_0 := (HB.out.cell (World.block_lt_of_cell? w _ hx128_0)).trans hx128_0
                                 replace p128 := eq_true p128
                                 replace q128 := eq_true q128
                                 obtain ⟨Ao53, co53, eo53⟩ := Kd.S_slice HO_3.out
                                 subst eo53
                                 have p129 : 0 ≤ (x6_3 : Int) := of_decide_eq_true (by first | (with_reducible assumption) | assumption)
                                 have q129 : x6_3 < (t107.length : Int) := of_decide_eq_true (by first | (with_reducible assumption) | assumption)
                                 obtain ⟨ad129, A129_0, c129_0, e129, hx129_0, hl129_0, hi129_0⟩ := at_L1 (Kd.S_reads' HO_3.out).2.2 x6_3 p129 q129
                                 cases e129
                                 obtain ⟨ce129, hce129, hMe129, hcc129⟩ := Kd.S_get HO_3.out [] x6_3 p129 (by first | exact q129 | exact of_decide_eq_true (by first | (with_reducible assumption) | assumption) | (have e_ := (Kd.S_reads' HO_3.out).1; omega))
                                 obtain ⟨ve129_0, rfl, ge129_0⟩ := hMe129
                                 have hv129_0 := hcc129 0 _ rfl
                                 rw [Nat.add_zero, show ((Kd.slice 5 (Kd.int .u8))).sz = 1 from rfl, Nat.mul_one] at hv129_0
                                 replace hv129_0 := Option.some.inj (hv129_0.symm.trans hx129_0)
                                 rw [hv129_0] at ge129_0
                                 have HL129_0 := Aside0.mk (show Kd.R (Kd.int .u8) 5 _ _ _ _ (rd_L1 t107 x6_3) from ge129_0)
                                 clear hv129_0 ge129_0
                                 clear hcc129 hce129
                                 have HR129_0 := Aside0.mk hi129_0
                                 have HC129_0 := Aside0.mk hl129_0
                                 clear hi129_0 hl129_0
                                 replace p129 := eq_true p129
                                 replace q129 := eq_true q129
                                 have p130 : 0 ≤ (x7_5 : Int) := of_decide_eq_true (by first | (with_reducible assumption) | assumption)
                                 have q130 : x7_5 < ((rd_L1 t107 x6_3).length : Int) := of_decide_eq_true (by first | (with_reducible assumption) | assumption)
                                 obtain ⟨ad130, e130, hx130_0⟩ := Kd.at_int (by repeat (first | (with_reducible exact HR129_0.out) | (with_reducible refine Kd.C_alloc ?_ _) | (with_reducible refine Kd.C_drewN ?_ _) | (with_reducible refine Kd.C_drew ?_) | exact HR129_0.out)) x7_5 p130 q130
                                 cases e130
                                 replace p130 := eq_true p130
                                 replace q130 := eq_true q130
                                 have p131 : 0 ≤ (x6_3 : Int) := of_decide_eq_true (by first | (with_reducible assumption) | assumption)
                                 have q131 : x6_3 < (t107.length : Int) := of_decide_eq_true (by first | (with_reducible assumption) | assumption)
                                 obtain ⟨ad131, A131_0, c131_0, e131, hx131_0, hl131_0, hi131_0⟩ := at_L1 (Kd.S_reads' HO_3.out).2.2 x6_3 p131 q131
                                 obtain rfl : ad129 = ad131 := (by injection e131)
                                 obtain ⟨ce131, hce131, hMe131, hcc131⟩ := Kd.S_get HO_3.out [] x6_3 p131 (by first | exact q131 | exact of_decide_eq_true (by first | (with_reducible assumption) | assumption) | (have e_ := (Kd.S_reads' HO_3.out).1; omega))
                                 obtain ⟨ve131_0, rfl, ge131_0⟩ := hMe131
                                 have hv131_0 := hcc131 0 _ rfl
                                 rw [Nat.add_zero, show ((Kd.slice 5 (Kd.int .u8))).sz = 1 from rfl, Nat.mul_one] at hv131_0
                                 replace hv131_0 := Option.some.inj (hv131_0.symm.trans hx131_0)
                                 rw [hv131_0] at ge131_0
                                 have HL131_0 := Aside0.mk (show Kd.R (Kd.int .u8) 5 _ _ _ _ (rd_L1 t107 x6_3) from ge131_0)
                                 clear hv131_0 ge131_0
                                 clear hcc131 hce131
                                 have HR131_0 := Aside0.mk hi131_0
                                 have HC131_0 := Aside0.mk hl131_0
                                 clear hi131_0 hl131_0
                                 replace p131 := eq_true p131
                                 replace q131 := eq_true q131
                                 have ea_ := Option.some.inj (hx129_0.symm.trans hx131_0)
                                 injection ea_ with ea_ en_ ec_
                                 subst ea_
                                 subst ec_
                                 clear en_
                                 have p132 : 0 ≤ (x7_5 : Int) := of_decide_eq_true (by first | (with_reducible assumption) | assumption)
                                 have q132 : x7_5 < ((rd_L1 t107 x6_3).length : Int) := of_decide_eq_true (by first | (with_reducible assumption) | assumption)
                                 obtain ⟨ad132, e132, hx132_0⟩ := Kd.at_int (by repeat (first | (with_reducible exact HR131_0.out) | (with_reducible refine Kd.C_alloc ?_ _) | (with_reducible refine Kd.C_drewN ?_ _) | (with_reducible refine Kd.C_drew ?_) | exact HR131_0.out)) x7_5 p132 q132
                                 cases e132
                                 replace p132 := eq_true p132
                                 replace q132 := eq_true q132
                                 go_wp2
                                 repeat (go_quiet (fail); try go_wp2)
                                 go_roundg k6
                                 case measure => have := HJ3.out; have := HJ14.out; have := HK3.out; have := HJ23.out; have := HK5.out; have := HK6.out; omega
                                 case rel => exact ⟨(wrap64 (x7_5 + 1)), (by first | rfl | (simp; done) | (simp [*]; done)), H', ⟨by have := HJ3.out; have := HJ14.out; have := HK3.out; have := HJ23.out; have := HK5.out; have := HK6.out; omega⟩, ⟨by (with_reducible repeat (first | apply Kd.S_alloc | apply Kd.S_drewN | apply Kd.S_drew)); exact HO_3.out⟩, ⟨by repeat (first | (with_reducible first | exact HB.out | apply below_alloc | apply pw_below_drewN | apply below_drew1) | exact HB.out)⟩⟩
                                ·rw [if_neg c52] at H
                                 have c52b0 : ((rd (rd_L1 t107 x6_3) x7_5) == 1) = false := beq_eq_false_iff_ne.mpr c52
                                 have c52b1 : ((rd (rd_L1 t107 x6_3) x7_5) != 1) = true := bne_iff_ne.mpr c52
                                 obtain rfl := Option.some.inj H
                                 have p127 : 0 ≤ (x6_3 : Int) := of_decide_eq_true (by first | (with_reducible assumption) | assumption)
                                 have q127 : x6_3 < (l0.length : Int) := of_decide_eq_true (by first | (with_reducible assumption) | assumption)
                                 obtain ⟨ad127, A127_0, c127_0, e127, hx127_0, hl127_0, hi127_0⟩ := at_L1 HR0.out x6_3 p127 q127
                                 obtain rfl : ad111 = ad127 := (by injection e127)
                                 replace hx127_0 := (HB.out.cell (World.block_lt_of_cell? w _ hx127_0)).trans hx127_0
                                 have HR127_0 := Aside0.mk hi127_0
                                 have HC127_0 := Aside0.mk hl127_0
                                 clear hi127_0 hl127_0
                                 replace p127 := eq_true p127
                                 replace q127 := eq_true q127
                                 have p128 : 0 ≤ (x7_5 : Int) := of_decide_eq_true (by first | (with_reducible assumption) | assumption)
                                 have q128 : x7_5 < ((rd_L1 l0 x6_3).length : Int) := of_decide_eq_true (by first | (with_reducible assumption) | assumption)
                                 obtain ⟨ad128, e128, hx128_0⟩ := Kd.at_int HR127_0.out x7_5 p128 q128
                                 cases e128
                                 replace hx128_0 := (HB.out.cell (World.block_lt_of_cell? w _ hx128_0)).trans hx128_0
                                 replace p128 := eq_true p128
                                 replace q128 := eq_true q128
                                 obtain ⟨Ao54, co54, eo54⟩ := Kd.S_slice HO_3.out
                                 subst eo54
                                 have p129 : 0 ≤ (x6_3 : Int) := of_decide_eq_true (by first | (with_reducible assumption) | assumption)
                                 have q129 : x6_3 < (t107.length : Int) := of_decide_eq_true (by first | (with_reducible assumption) | assumption)
                                 obtain ⟨ad129, A129_0, c129_0, e129, hx129_0, hl129_0, hi129_0⟩ := at_L1 (Kd.S_reads' HO_3.out).2.2 x6_3 p129 q129
                                 cases e129
                                 obtain ⟨ce129, hce129, hMe129, hcc129⟩ := Kd.S_get HO_3.out [] x6_3 p129 (by first | exact q129 | exact of_decide_eq_true (by first | (with_reducible assumption) | assumption) | (have e_ := (Kd.S_reads' HO_3.out).1; omega))
                                 obtain ⟨ve129_0, rfl, ge129_0⟩ := hMe129
                                 have hv129_0 := hcc129 0 _ rfl
                                 rw [Nat.add_zero, show ((Kd.slice 5 (Kd.int .u8))).sz = 1 from rfl, Nat.mul_one] at hv129_0
                                 replace hv129_0 := Option.some.inj (hv129_0.symm.trans hx129_0)
                                 rw [hv129_0] at ge129_0
                                 have HL129_0 := Aside0.mk (show Kd.R (Kd.int .u8) 5 _ _ _ _ (rd_L1 t107 x6_3) from ge129_0)
                                 clear hv129_0 ge129_0
                                 clear hcc129 hce129
                                 have HR129_0 := Aside0.mk hi129_0
                                 have HC129_0 := Aside0.mk hl129_0
                                 clear hi129_0 hl129_0
                                 replace p129 := eq_true p129
                                 replace q129 := eq_true q129
                                 have p130 : 0 ≤ (x7_5 : Int) := of_decide_eq_true (by first | (with_reducible assumption) | assumption)
                                 have q130 : x7_5 < ((rd_L1 t107 x6_3).length : Int) := of_decide_eq_true (by first | (with_reducible assumption) | assumption)
                                 obtain ⟨ad130, e130, hx130_0⟩ := Kd.at_int (by repeat (first | (with_reducible exact HR129_0.out) | (with_reducible refine Kd.C_alloc ?_ _) | (with_reducible refine Kd.C_drewN ?_ _) | (with_reducible refine Kd.C_drew ?_) | exact HR129_0.out)) x7_5 p130 q130
                                 cases e130
                                 replace p130 := eq_true p130
                                 replace q130 := eq_true q130
                                 have p131 : 0 ≤ (x6_3 : Int) := of_decide_eq_true (by first | (with_reducible assumption) | assumption)
                                 have q131 : x6_3 < (t107.length : Int) := of_decide_eq_true (by first | (with_reducible assumption) | assumption)
                                 obtain ⟨ad131, A131_0, c131_0, e131, hx131_0, hl131_0, hi131_0⟩ := at_L1 (Kd.S_reads' HO_3.out).2.2 x6_3 p131 q131
                                 obtain rfl : ad129 = ad131 := (by injection e131)
                                 obtain ⟨ce131, hce131, hMe131, hcc131⟩ := Kd.S_get HO_3.out [] x6_3 p131 (by first | exact q131 | exact of_decide_eq_true (by first | (with_reducible assumption) | assumption) | (have e_ := (Kd.S_reads' HO_3.out).1; omega))
                                 obtain ⟨ve131_0, rfl, ge131_0⟩ := hMe131
                                 have hv131_0 := hcc131 0 _ rfl
                                 rw [Nat.add_zero, show ((Kd.slice 5 (Kd.int .u8))).sz = 1 from rfl, Nat.mul_one] at hv131_0
                                 replace hv131_0 := Option.some.inj (hv131_0.symm.trans hx131_0)
                                 rw [hv131_0] at ge131_0
                                 have HL131_0 := Aside0.mk (show Kd.R (Kd.int .u8) 5 _ _ _ _ (rd_L1 t107 x6_3) from ge131_0)
                                 clear hv131_0 ge131_0
                                 clear hcc131 hce131
                                 have HR131_0 := Aside0.mk hi131_0
                                 have HC131_0 := Aside0.mk hl131_0
                                 clear hi131_0 hl131_0
                                 replace p131 := eq_true p131
                                 replace q131 := eq_true q131
                                 have ea_ := Option.some.inj (hx129_0.symm.trans hx131_0)
                                 injection ea_ with ea_ en_ ec_
                                 subst ea_
                                 subst ec_
                                 clear en_
                                 have p132 : 0 ≤ (x7_5 : Int) := of_decide_eq_true (by first | (with_reducible assumption) | assumption)
                                 have q132 : x7_5 < ((rd_L1 t107 x6_3).length : Int) := of_decide_eq_true (by first | (with_reducible assumption) | assumption)
                                 obtain ⟨ad132, e132, hx132_0⟩ := Kd.at_int (by repeat (first | (with_reducible exact HR131_0.out) | (with_reducible refine Kd.C_alloc ?_ _) | (with_reducible refine Kd.C_drewN ?_ _) | (with_reducible refine Kd.C_drew ?_) | exact HR131_0.out)) x7_5 p132 q132
                                 cases e132
                                 replace p132 := eq_true p132
                                 replace q132 := eq_true q132
                                 go_wp2
                                 repeat (go_quiet (fail); try go_wp2)
                                 go_ret
                                 exact ⟨by first | rfl | (simp [errW_none, errW_some] <;> rfl) | (simp [*, errW_none, errW_some] <;> rfl), by repeat (first | (with_reducible first | exact HB.out | apply below_alloc | apply pw_below_drewN | apply below_drew1) | exact HB.out)⟩
                               ·rw [if_neg c51] at H
                                have c51b0 : (x6_3 == x7_5) = false := beq_eq_false_iff_ne.mpr c51
                                have c49z0 : ((rd (rd_L1 t107 x6_3) x7_5) != 0) = false := by (have h := c49b0; rw [c51b0] at h; cases hz : ((rd (rd_L1 t107 x6_3) x7_5) != 0) <;> rw [hz] at h <;> first | rfl | exact absurd h (by decide))
                                have c49z1 : ((rd (rd_L1 t107 x6_3) x7_5) == 0) = true := by (have h := c49z0; cases hz : ((rd (rd_L1 t107 x6_3) x7_5) == 0) <;> first | rfl | (exfalso; rw [show ((rd (rd_L1 t107 x6_3) x7_5) != 0) = !((rd (rd_L1 t107 x6_3) x7_5) == 0) from rfl, hz] at h; exact absurd h (by decide)))
                                have c51b1 : (x6_3 != x7_5) = true := bne_iff_ne.mpr c51
                                have H' := Aside0.mk H
                                clear H
                                have p127 : 0 ≤ (x6_3 : Int) := of_decide_eq_true (by first | (with_reducible assumption) | assumption)
                                have q127 : x6_3 < (l0.length : Int) := of_decide_eq_true (by first | (with_reducible assumption) | assumption)
                                obtain ⟨ad127, A127_0, c127_0, e127, hx127_0, hl127_0, hi127_0⟩ := at_L1 HR0.out x6_3 p127 q127
                                obtain rfl : ad111 = ad127 := (by injection e127)
                                replace hx127_0 := (HB.out.cell (World.block_lt_of_cell? w _ hx127_0)).trans hx127_0
                                have HR127_0 := Aside0.mk hi127_0
                                have HC127_0 := Aside0.mk hl127_0
                                clear hi127_0 hl127_0
                                replace p127 := eq_true p127
                                replace q127 := eq_true q127
                                have p128 : 0 ≤ (x7_5 : Int) := of_decide_eq_true (by first | (with_reducible assumption) | assumption)
                                have q128 : x7_5 < ((rd_L1 l0 x6_3).length : Int) := of_decide_eq_true (by first | (with_reducible assumption) | assumption)
                                obtain ⟨ad128, e128, hx128_0⟩ := Kd.at_int HR127_0.out x7_5 p128 q128
                                cases e128
                                replace hx128_0 := (HB.out.cell (World.block_lt_of_cell? w _ hx128_0)).trans hx128_0
                                replace p128 := eq_true p128
                                replace q128 := eq_true q128
                                obtain ⟨Ao55, co55, eo55⟩ := Kd.S_slice HO_3.out
                                subst eo55
                                have p129 : 0 ≤ (x6_3 : Int) := of_decide_eq_true (by first | (with_reducible assumption) | assumption)
                                have q129 : x6_3 < (t107.length : Int) := of_decide_eq_true (by first | (with_reducible assumption) | assumption)
                                obtain ⟨ad129, A129_0, c129_0, e129, hx129_0, hl129_0, hi129_0⟩ := at_L1 (Kd.S_reads' HO_3.out).2.2 x6_3 p129 q129
                                cases e129
                                obtain ⟨ce129, hce129, hMe129, hcc129⟩ := Kd.S_get HO_3.out [] x6_3 p129 (by first | exact q129 | exact of_decide_eq_true (by first | (with_reducible assumption) | assumption) | (have e_ := (Kd.S_reads' HO_3.out).1; omega))
                                obtain ⟨ve129_0, rfl, ge129_0⟩ := hMe129
                                have hv129_0 := hcc129 0 _ rfl
                                rw [Nat.add_zero, show ((Kd.slice 5 (Kd.int .u8))).sz = 1 from rfl, Nat.mul_one] at hv129_0
                                replace hv129_0 := Option.some.inj (hv129_0.symm.trans hx129_0)
                                rw [hv129_0] at ge129_0
                                have HL129_0 := Aside0.mk (show Kd.R (Kd.int .u8) 5 _ _ _ _ (rd_L1 t107 x6_3) from ge129_0)
                                clear hv129_0 ge129_0
                                clear hcc129 hce129
                                have HR129_0 := Aside0.mk hi129_0
                                have HC129_0 := Aside0.mk hl129_0
                                clear hi129_0 hl129_0
                                replace p129 := eq_true p129
                                replace q129 := eq_true q129
                                have p130 : 0 ≤ (x7_5 : Int) := of_decide_eq_true (by first | (with_reducible assumption) | assumption)
                                have q130 : x7_5 < ((rd_L1 t107 x6_3).length : Int) := of_decide_eq_true (by first | (with_reducible assumption) | assumption)
                                obtain ⟨ad130, e130, hx130_0⟩ := Kd.at_int (by repeat (first | (with_reducible exact HR129_0.out) | (with_reducible refine Kd.C_alloc ?_ _) | (with_reducible refine Kd.C_drewN ?_ _) | (with_reducible refine Kd.C_drew ?_) | exact HR129_0.out)) x7_5 p130 q130
                                cases e130
                                replace p130 := eq_true p130
                                replace q130 := eq_true q130
                                go_wp2
                                repeat (go_quiet (fail); try go_wp2)
                                go_roundg k6
                                case measure => have := HJ3.out; have := HJ14.out; have := HK3.out; have := HJ23.out; have := HK5.out; have := HK6.out; omega
                                case rel => exact ⟨(wrap64 (x7_5 + 1)), (by first | rfl | (simp; done) | (simp [*]; done)), H', ⟨by have := HJ3.out; have := HJ14.out; have := HK3.out; have := HJ23.out; have := HK5.out; have := HK6.out; omega⟩, ⟨by (with_reducible repeat (first | apply Kd.S_alloc | apply Kd.S_drewN | apply Kd.S_drew)); exact HO_3.out⟩, ⟨by repeat (first | (with_reducible first | exact HB.out | apply below_alloc | apply pw_below_drewN | apply below_drew1) | exact HB.out)⟩⟩
                             ·rw [if_neg c48] at H
                              exact absurd H (by simp)
                            ·rw [if_neg c47] at H
                             exact absurd H (by simp)
                           ·rw [if_neg c46] at H
                            have c46b0 : decide (x6_3 < ((rd_L1 l0 0).length : Int)) = false := decide_eq_false c46
                            clear c46
                            have H' := Aside0.mk H
                            clear H
                            have p127 : 0 ≤ (x6_3 : Int) := of_decide_eq_true (by first | (with_reducible assumption) | assumption)
                            have q127 : x6_3 < (l0.length : Int) := of_decide_eq_true (by first | (with_reducible assumption) | assumption)
                            obtain ⟨ad127, A127_0, c127_0, e127, hx127_0, hl127_0, hi127_0⟩ := at_L1 HR0.out x6_3 p127 q127
                            obtain rfl : ad111 = ad127 := (by injection e127)
                            replace hx127_0 := (HB.out.cell (World.block_lt_of_cell? w _ hx127_0)).trans hx127_0
                            have HR127_0 := Aside0.mk hi127_0
                            have HC127_0 := Aside0.mk hl127_0
                            clear hi127_0 hl127_0
                            replace p127 := eq_true p127
                            replace q127 := eq_true q127
                            have p128 : 0 ≤ (x7_5 : Int) := of_decide_eq_true (by first | (with_reducible assumption) | assumption)
                            have q128 : x7_5 < ((rd_L1 l0 x6_3).length : Int) := of_decide_eq_true (by first | (with_reducible assumption) | assumption)
                            obtain ⟨ad128, e128, hx128_0⟩ := Kd.at_int HR127_0.out x7_5 p128 q128
                            cases e128
                            replace hx128_0 := (HB.out.cell (World.block_lt_of_cell? w _ hx128_0)).trans hx128_0
                            replace p128 := eq_true p128
                            replace q128 := eq_true q128
                            go_wp2
                            repeat (go_quiet (fail); try go_wp2)
                            go_roundg k6
                            case measure => have := HJ3.out; have := HJ14.out; have := HK3.out; have := HJ23.out; have := HK5.out; have := HK6.out; omega
                            case rel => exact ⟨(wrap64 (x7_5 + 1)), (by first | rfl | (simp; done) | (simp [*]; done)), H', ⟨by have := HJ3.out; have := HJ14.out; have := HK3.out; have := HJ23.out; have := HK5.out; have := HK6.out; omega⟩, ⟨by (with_reducible repeat (first | apply Kd.S_alloc | apply Kd.S_drewN | apply Kd.S_drew)); exact HO_3.out⟩, ⟨by repeat (first | (with_reducible first | exact HB.out | apply below_alloc | apply pw_below_drewN | apply below_drew1) | exact HB.out)⟩⟩
                          ·rw [if_neg c45] at H
                           have c45b0 : (x8_6 == (rd (rd_L1 l0 x6_3) x7_5)) = false := beq_eq_false_iff_ne.mpr c45
                           have c45b1 : (x8_6 != (rd (rd_L1 l0 x6_3) x7_5)) = true := bne_iff_ne.mpr c45
                           obtain rfl := Option.some.inj H
                           have p127 : 0 ≤ (x6_3 : Int) := of_decide_eq_true (by first | (with_reducible assumption) | assumption)
                           have q127 : x6_3 < (l0.length : Int) := of_decide_eq_true (by first | (with_reducible assumption) | assumption)
                           obtain ⟨ad127, A127_0, c127_0, e127, hx127_0, hl127_0, hi127_0⟩ := at_L1 HR0.out x6_3 p127 q127
                           obtain rfl : ad111 = ad127 := (by injection e127)
                           replace hx127_0 := (HB.out.cell (World.block_lt_of_cell? w _ hx127_0)).trans hx127_0
                           have HR127_0 := Aside0.mk hi127_0
                           have HC127_0 := Aside0.mk hl127_0
                           clear hi127_0 hl127_0
                           replace p127 := eq_true p127
                           replace q127 := eq_true q127
                           have p128 : 0 ≤ (x7_5 : Int) := of_decide_eq_true (by first | (with_reducible assumption) | assumption)
                           have q128 : x7_5 < ((rd_L1 l0 x6_3).length : Int) := of_decide_eq_true (by first | (with_reducible assumption) | assumption)
                           obtain ⟨ad128, e128, hx128_0⟩ := Kd.at_int HR127_0.out x7_5 p128 q128
                           cases e128
                           replace hx128_0 := (HB.out.cell (World.block_lt_of_cell? w _ hx128_0)).trans hx128_0
                           replace p128 := eq_true p128
                           replace q128 := eq_true q128
                           go_wp2
                           repeat (go_quiet (fail); try go_wp2)
                           go_ret
                           exact ⟨by first | rfl | (simp [errW_none, errW_some] <;> rfl) | (simp [*, errW_none, errW_some] <;> rfl), by repeat (first | (with_reducible first | exact HB.out | apply below_alloc | apply pw_below_drewN | apply below_drew1) | exact HB.out)⟩
                         ·rw [if_neg c44] at H
                          exact absurd H (by simp)
                        ·rw [if_neg c43] at H
                         exact absurd H (by simp)
                       ·rw [if_neg c42] at H
                        exact absurd H (by simp)
                      ·rw [if_neg c41] at H
                       exact absurd H (by simp)
                  ·rw [if_neg c30] at H
                   have c30b0 : decide (x7_5 < ((rd_L1 l0 0).length : Int)) = false := decide_eq_false c30
                   clear c30
                   have H' := Aside0.mk H
                   clear H
                   go_wp2
                   repeat (go_quiet (fail); try go_wp2)
                   go_roundg k5
                   case measure => have := HJ3.out; have := HJ14.out; have := HK3.out; have := HJ23.out; have := HK5.out; omega
                   case rel => exact ⟨(wrap64 (x6_3 + 1)), (by first | rfl | (simp; done) | (simp [*]; done)), H', ⟨by have := HJ3.out; have := HJ14.out; have := HK3.out; have := HJ23.out; have := HK5.out; omega⟩, ⟨by (with_reducible repeat (first | apply Kd.S_alloc | apply Kd.S_drewN | apply Kd.S_drew)); exact HO_3.out⟩, ⟨by repeat (first | (with_reducible first | exact HB.out | apply below_alloc | apply pw_below_drewN | apply below_drew1) | exact HB.out)⟩⟩
            ·rw [if_neg c23] at H
             have c23b0 : decide (x6_3 < (l0.length : Int)) = false := decide_eq_false c23
             clear c23
             replace H := Option.bind_eq_some_iff.mp H
             obtain ⟨t112, A560, H⟩ := H
             replace H : ((gener_Systematic.f k3 t112).bind fun bt115 => (if bt115.2 = 0 then ((culletlaw11_equal.f k3 bt115.1 t107).bind fun t119 => (some t119)) else (some false))) = some r := H
             have A56 := Aside0.mk A560
             clear A560
             replace H := Option.bind_eq_some_iff.mp H
             obtain ⟨⟨t115, t116⟩, A570, H⟩ := H
             replace H : (if t116 = 0 then ((culletlaw11_equal.f k3 t115 t107).bind fun t119 => (some t119)) else (some false)) = some r := H
             have A57 := Aside0.mk A570
             clear A570
             by_cases c58 : t116 = 0
             ·rw [if_pos c58] at H
              have c58b0 : (t116 == 0) = true := beq_iff_eq.mpr c58
              have c58b1 : (t116 != 0) = false := bne_eq_false_iff_eq.mpr c58
              clear c58
              replace H := Option.bind_eq_some_iff.mp H
              obtain ⟨t119, A590, H⟩ := H
              replace H : (some t119) = some r := H
              have A59 := Aside0.mk A590
              clear A590
              obtain rfl := Option.some.inj H
              obtain ⟨Ao60, co60, eo60⟩ := Kd.S_slice HO_3.out
              subst eo60
              go_wp2_with (first | (go_at_call 32; (with_reducible refine (culletlaw11_copied.calls k3 _ _ t107 t112 _ ?side1 ?side2 A56.out).mono ?_); (case side1 => repeat (first | exact (Kd.S_reads' HO_3.out).2.2 | (with_reducible refine Kd.C_alloc ?_ _) | (with_reducible refine Kd.C_drewN ?_ _) | (with_reducible refine Kd.C_drew ?_))); (case side2 => exact (Kd.S_reads' HO_3.out).2.1); rintro e w61 ⟨v113, rfl, ho0, hb⟩; have n0_ := Aside0.mk (Kd.S_elder' (by (with_reducible repeat (first | apply Kd.S_alloc | apply Kd.S_drewN | apply Kd.S_drew)); exact HO_3.out) (Kd.S_base ho0) hb); have n1_ := Aside0.mk (Kd.S_lower (Kd.S_new' ho0 (Kd.S_lt (by (with_reducible repeat (first | apply Kd.S_alloc | apply Kd.S_drewN | apply Kd.S_drew)); exact HO_3.out))) (below_size (by repeat (first | (with_reducible first | exact HB.out | apply below_alloc | apply pw_below_drewN | apply below_drew1) | exact HB.out)))); have n2_ := Aside0.mk (below_step (by repeat (first | (with_reducible first | exact HB.out | apply below_alloc | apply pw_below_drewN | apply below_drew1) | exact HB.out)) hb); clear HO_3; clear HB; have HO_3 := n0_; have HO114 := n1_; have HB := n2_; clear n0_ n1_ n2_; (try clear hb); (try clear hb2); (try clear hk); (try clear hi); (try clear ho0); obtain ⟨Ao62, co62, eo62⟩ := Kd.S_slice HO114.out; subst eo62) | (go_at_call 31; (with_reducible refine (gener_Systematic.calls k3 _ _ t112 t115 t116 _ ?side1 ?side2 A57.out).mono ?_); (case side1 => repeat (first | exact (Kd.S_reads' HO114.out).2.2 | (with_reducible refine Kd.C_alloc ?_ _) | (with_reducible refine Kd.C_drewN ?_ _) | (with_reducible refine Kd.C_drew ?_))); (case side2 => exact (Kd.S_reads' HO114.out).2.1); rintro e w63 ⟨v117, rfl, ho0, hb⟩; have n0_ := Aside0.mk (Kd.S_elder' (by (with_reducible repeat (first | apply Kd.S_alloc | apply Kd.S_drewN | apply Kd.S_drew)); exact HO_3.out) (Kd.S_base ho0) hb); have n1_ := Aside0.mk (Kd.S_elder' (by (with_reducible repeat (first | apply Kd.S_alloc | apply Kd.S_drewN | apply Kd.S_drew)); exact HO114.out) (Kd.S_base ho0) hb); have n2_ := Aside0.mk (Kd.S_lower (Kd.S_new' (Kd.S_new' ho0 (Kd.S_lt (by (with_reducible repeat (first | apply Kd.S_alloc | apply Kd.S_drewN | apply Kd.S_drew)); exact HO_3.out))) (Kd.S_lt (by (with_reducible repeat (first | apply Kd.S_alloc | apply Kd.S_drewN | apply Kd.S_drew)); exact HO114.out))) (below_size (by repeat (first | (with_reducible first | exact HB.out | apply below_alloc | apply pw_below_drewN | apply below_drew1) | exact HB.out)))); have n3_ := Aside0.mk (below_step (by repeat (first | (with_reducible first | exact HB.out | apply below_alloc | apply pw_below_drewN | apply below_drew1) | exact HB.out)) hb); clear HO_3; clear HO114; clear HB; have HO_3 := n0_; have HO114 := n1_; have HO118 := n2_; have HB := n3_; clear n0_ n1_ n2_ n3_; (try clear hb); (try clear hb2); (try clear hk); (try clear hi); (try clear ho0); obtain ⟨Ao64, co64, eo64⟩ := Kd.S_slice HO118.out; subst eo64) | (go_at_call 24; (with_reducible refine (culletlaw11_equal.calls k3 _ _ t115 _ _ t107 t119 _ ?side1 ?side2 ?side3 ?side4 A59.out).mono ?_); (case side1 => repeat (first | exact (Kd.S_reads' HO118.out).2.2 | (with_reducible refine Kd.C_alloc ?_ _) | (with_reducible refine Kd.C_drewN ?_ _) | (with_reducible refine Kd.C_drew ?_))); (case side2 => exact (Kd.S_reads' HO118.out).2.1); (case side3 => repeat (first | exact (Kd.S_reads' HO_3.out).2.2 | (with_reducible refine Kd.C_alloc ?_ _) | (with_reducible refine Kd.C_drewN ?_ _) | (with_reducible refine Kd.C_drew ?_))); (case side4 => exact (Kd.S_reads' HO_3.out).2.1); rintro e w' ⟨rfl, ⟨nd, rfl⟩⟩; (try first | exact ⟨rfl, _, World.drewN_drewN _ _ _⟩ | exact ⟨rfl, _, Eq.trans (World.drewN_drewN _ _ _) (congrArg (World.drewN _) (Nat.add_assoc _ _ _))⟩)))
              repeat (go_quiet (first | (go_at_call 32; (with_reducible refine (culletlaw11_copied.calls k3 _ _ t107 t112 _ ?side1 ?side2 A56.out).mono ?_); (case side1 => repeat (first | exact (Kd.S_reads' HO_3.out).2.2 | (with_reducible refine Kd.C_alloc ?_ _) | (with_reducible refine Kd.C_drewN ?_ _) | (with_reducible refine Kd.C_drew ?_))); (case side2 => exact (Kd.S_reads' HO_3.out).2.1); rintro e w61 ⟨v113, rfl, ho0, hb⟩; have n0_ := Aside0.mk (Kd.S_elder' (by (with_reducible repeat (first | apply Kd.S_alloc | apply Kd.S_drewN | apply Kd.S_drew)); exact HO_3.out) (Kd.S_base ho0) hb); have n1_ := Aside0.mk (Kd.S_lower (Kd.S_new' ho0 (Kd.S_lt (by (with_reducible repeat (first | apply Kd.S_alloc | apply Kd.S_drewN | apply Kd.S_drew)); exact HO_3.out))) (below_size (by repeat (first | (with_reducible first | exact HB.out | apply below_alloc | apply pw_below_drewN | apply below_drew1) | exact HB.out)))); have n2_ := Aside0.mk (below_step (by repeat (first | (with_reducible first | exact HB.out | apply below_alloc | apply pw_below_drewN | apply below_drew1) | exact HB.out)) hb); clear HO_3; clear HB; have HO_3 := n0_; have HO114 := n1_; have HB := n2_; clear n0_ n1_ n2_; (try clear hb); (try clear hb2); (try clear hk); (try clear hi); (try clear ho0); obtain ⟨Ao62, co62, eo62⟩ := Kd.S_slice HO114.out; subst eo62) | (go_at_call 31; (with_reducible refine (gener_Systematic.calls k3 _ _ t112 t115 t116 _ ?side1 ?side2 A57.out).mono ?_); (case side1 => repeat (first | exact (Kd.S_reads' HO114.out).2.2 | (with_reducible refine Kd.C_alloc ?_ _) | (with_reducible refine Kd.C_drewN ?_ _) | (with_reducible refine Kd.C_drew ?_))); (case side2 => exact (Kd.S_reads' HO114.out).2.1); rintro e w63 ⟨v117, rfl, ho0, hb⟩; have n0_ := Aside0.mk (Kd.S_elder' (by (with_reducible repeat (first | apply Kd.S_alloc | apply Kd.S_drewN | apply Kd.S_drew)); exact HO_3.out) (Kd.S_base ho0) hb); have n1_ := Aside0.mk (Kd.S_elder' (by (with_reducible repeat (first | apply Kd.S_alloc | apply Kd.S_drewN | apply Kd.S_drew)); exact HO114.out) (Kd.S_base ho0) hb); have n2_ := Aside0.mk (Kd.S_lower (Kd.S_new' (Kd.S_new' ho0 (Kd.S_lt (by (with_reducible repeat (first | apply Kd.S_alloc | apply Kd.S_drewN | apply Kd.S_drew)); exact HO_3.out))) (Kd.S_lt (by (with_reducible repeat (first | apply Kd.S_alloc | apply Kd.S_drewN | apply Kd.S_drew)); exact HO114.out))) (below_size (by repeat (first | (with_reducible first | exact HB.out | apply below_alloc | apply pw_below_drewN | apply below_drew1) | exact HB.out)))); have n3_ := Aside0.mk (below_step (by repeat (first | (with_reducible first | exact HB.out | apply below_alloc | apply pw_below_drewN | apply below_drew1) | exact HB.out)) hb); clear HO_3; clear HO114; clear HB; have HO_3 := n0_; have HO114 := n1_; have HO118 := n2_; have HB := n3_; clear n0_ n1_ n2_ n3_; (try clear hb); (try clear hb2); (try clear hk); (try clear hi); (try clear ho0); obtain ⟨Ao64, co64, eo64⟩ := Kd.S_slice HO118.out; subst eo64) | (go_at_call 24; (with_reducible refine (culletlaw11_equal.calls k3 _ _ t115 _ _ t107 t119 _ ?side1 ?side2 ?side3 ?side4 A59.out).mono ?_); (case side1 => repeat (first | exact (Kd.S_reads' HO118.out).2.2 | (with_reducible refine Kd.C_alloc ?_ _) | (with_reducible refine Kd.C_drewN ?_ _) | (with_reducible refine Kd.C_drew ?_))); (case side2 => exact (Kd.S_reads' HO118.out).2.1); (case side3 => repeat (first | exact (Kd.S_reads' HO_3.out).2.2 | (with_reducible refine Kd.C_alloc ?_ _) | (with_reducible refine Kd.C_drewN ?_ _) | (with_reducible refine Kd.C_drew ?_))); (case side4 => exact (Kd.S_reads' HO_3.out).2.1); rintro e w' ⟨rfl, ⟨nd, rfl⟩⟩; (try first | exact ⟨rfl, _, World.drewN_drewN _ _ _⟩ | exact ⟨rfl, _, Eq.trans (World.drewN_drewN _ _ _) (congrArg (World.drewN _) (Nat.add_assoc _ _ _))⟩))); try go_wp2_with (first | (go_at_call 32; (with_reducible refine (culletlaw11_copied.calls k3 _ _ t107 t112 _ ?side1 ?side2 A56.out).mono ?_); (case side1 => repeat (first | exact (Kd.S_reads' HO_3.out).2.2 | (with_reducible refine Kd.C_alloc ?_ _) | (with_reducible refine Kd.C_drewN ?_ _) | (with_reducible refine Kd.C_drew ?_))); (case side2 => exact (Kd.S_reads' HO_3.out).2.1); rintro e w61 ⟨v113, rfl, ho0, hb⟩; have n0_ := Aside0.mk (Kd.S_elder' (by (with_reducible repeat (first | apply Kd.S_alloc | apply Kd.S_drewN | apply Kd.S_drew)); exact HO_3.out) (Kd.S_base ho0) hb); have n1_ := Aside0.mk (Kd.S_lower (Kd.S_new' ho0 (Kd.S_lt (by (with_reducible repeat (first | apply Kd.S_alloc | apply Kd.S_drewN | apply Kd.S_drew)); exact HO_3.out))) (below_size (by repeat (first | (with_reducible first | exact HB.out | apply below_alloc | apply pw_below_drewN | apply below_drew1) | exact HB.out)))); have n2_ := Aside0.mk (below_step (by repeat (first | (with_reducible first | exact HB.out | apply below_alloc | apply pw_below_drewN | apply below_drew1) | exact HB.out)) hb); clear HO_3; clear HB; have HO_3 := n0_; have HO114 := n1_; have HB := n2_; clear n0_ n1_ n2_; (try clear hb); (try clear hb2); (try clear hk); (try clear hi); (try clear ho0); obtain ⟨Ao62, co62, eo62⟩ := Kd.S_slice HO114.out; subst eo62) | (go_at_call 31; (with_reducible refine (gener_Systematic.calls k3 _ _ t112 t115 t116 _ ?side1 ?side2 A57.out).mono ?_); (case side1 => repeat (first | exact (Kd.S_reads' HO114.out).2.2 | (with_reducible refine Kd.C_alloc ?_ _) | (with_reducible refine Kd.C_drewN ?_ _) | (with_reducible refine Kd.C_drew ?_))); (case side2 => exact (Kd.S_reads' HO114.out).2.1); rintro e w63 ⟨v117, rfl, ho0, hb⟩; have n0_ := Aside0.mk (Kd.S_elder' (by (with_reducible repeat (first | apply Kd.S_alloc | apply Kd.S_drewN | apply Kd.S_drew)); exact HO_3.out) (Kd.S_base ho0) hb); have n1_ := Aside0.mk (Kd.S_elder' (by (with_reducible repeat (first | apply Kd.S_alloc | apply Kd.S_drewN | apply Kd.S_drew)); exact HO114.out) (Kd.S_base ho0) hb); have n2_ := Aside0.mk (Kd.S_lower (Kd.S_new' (Kd.S_new' ho0 (Kd.S_lt (by (with_reducible repeat (first | apply Kd.S_alloc | apply Kd.S_drewN | apply Kd.S_drew)); exact HO_3.out))) (Kd.S_lt (by (with_reducible repeat (first | apply Kd.S_alloc | apply Kd.S_drewN | apply Kd.S_drew)); exact HO114.out))) (below_size (by repeat (first | (with_reducible first | exact HB.out | apply below_alloc | apply pw_below_drewN | apply below_drew1) | exact HB.out)))); have n3_ := Aside0.mk (below_step (by repeat (first | (with_reducible first | exact HB.out | apply below_alloc | apply pw_below_drewN | apply below_drew1) | exact HB.out)) hb); clear HO_3; clear HO114; clear HB; have HO_3 := n0_; have HO114 := n1_; have HO118 := n2_; have HB := n3_; clear n0_ n1_ n2_ n3_; (try clear hb); (try clear hb2); (try clear hk); (try clear hi); (try clear ho0); obtain ⟨Ao64, co64, eo64⟩ := Kd.S_slice HO118.out; subst eo64) | (go_at_call 24; (with_reducible refine (culletlaw11_equal.calls k3 _ _ t115 _ _ t107 t119 _ ?side1 ?side2 ?side3 ?side4 A59.out).mono ?_); (case side1 => repeat (first | exact (Kd.S_reads' HO118.out).2.2 | (with_reducible refine Kd.C_alloc ?_ _) | (with_reducible refine Kd.C_drewN ?_ _) | (with_reducible refine Kd.C_drew ?_))); (case side2 => exact (Kd.S_reads' HO118.out).2.1); (case side3 => repeat (first | exact (Kd.S_reads' HO_3.out).2.2 | (with_reducible refine Kd.C_alloc ?_ _) | (with_reducible refine Kd.C_drewN ?_ _) | (with_reducible refine Kd.C_drew ?_))); (case side4 => exact (Kd.S_reads' HO_3.out).2.1); rintro e w' ⟨rfl, ⟨nd, rfl⟩⟩; (try first | exact ⟨rfl, _, World.drewN_drewN _ _ _⟩ | exact ⟨rfl, _, Eq.trans (World.drewN_drewN _ _ _) (congrArg (World.drewN _) (Nat.add_assoc _ _ _))⟩))))
              go_ret
              exact ⟨by first | rfl | (simp [errW_none, errW_some] <;> rfl) | (simp [*, errW_none, errW_some] <;> rfl), by repeat (first | (with_reducible first | exact HB.out | apply below_alloc | apply pw_below_drewN | apply below_drew1) | exact HB.out)⟩
             ·rw [if_neg c58] at H
              have c58b0 : (t116 == 0) = false := beq_eq_false_iff_ne.mpr c58
              have c58b1 : (t116 != 0) = true := bne_iff_ne.mpr c58
              obtain rfl := Option.some.inj H
              obtain ⟨Ao65, co65, eo65⟩ := Kd.S_slice HO_3.out
              subst eo65
              go_wp2_with (first | (go_at_call 32; (with_reducible refine (culletlaw11_copied.calls k3 _ _ t107 t112 _ ?side1 ?side2 A56.out).mono ?_); (case side1 => repeat (first | exact (Kd.S_reads' HO_3.out).2.2 | (with_reducible refine Kd.C_alloc ?_ _) | (with_reducible refine Kd.C_drewN ?_ _) | (with_reducible refine Kd.C_drew ?_))); (case side2 => exact (Kd.S_reads' HO_3.out).2.1); rintro e w66 ⟨v113, rfl, ho0, hb⟩; have n0_ := Aside0.mk (Kd.S_elder' (by (with_reducible repeat (first | apply Kd.S_alloc | apply Kd.S_drewN | apply Kd.S_drew)); exact HO_3.out) (Kd.S_base ho0) hb); have n1_ := Aside0.mk (Kd.S_lower (Kd.S_new' ho0 (Kd.S_lt (by (with_reducible repeat (first | apply Kd.S_alloc | apply Kd.S_drewN | apply Kd.S_drew)); exact HO_3.out))) (below_size (by repeat (first | (with_reducible first | exact HB.out | apply below_alloc | apply pw_below_drewN | apply below_drew1) | exact HB.out)))); have n2_ := Aside0.mk (below_step (by repeat (first | (with_reducible first | exact HB.out | apply below_alloc | apply pw_below_drewN | apply below_drew1) | exact HB.out)) hb); clear HO_3; clear HB; have HO_3 := n0_; have HO114 := n1_; have HB := n2_; clear n0_ n1_ n2_; (try clear hb); (try clear hb2); (try clear hk); (try clear hi); (try clear ho0); obtain ⟨Ao67, co67, eo67⟩ := Kd.S_slice HO114.out; subst eo67) | (go_at_call 31; (with_reducible refine (gener_Systematic.calls k3 _ _ t112 t115 t116 _ ?side1 ?side2 A57.out).mono ?_); (case side1 => repeat (first | exact (Kd.S_reads' HO114.out).2.2 | (with_reducible refine Kd.C_alloc ?_ _) | (with_reducible refine Kd.C_drewN ?_ _) | (with_reducible refine Kd.C_drew ?_))); (case side2 => exact (Kd.S_reads' HO114.out).2.1); rintro e w68 ⟨v117, rfl, ho0, hb⟩; have n0_ := Aside0.mk (Kd.S_elder' (by (with_reducible repeat (first | apply Kd.S_alloc | apply Kd.S_drewN | apply Kd.S_drew)); exact HO_3.out) (Kd.S_base ho0) hb); have n1_ := Aside0.mk (Kd.S_elder' (by (with_reducible repeat (first | apply Kd.S_alloc | apply Kd.S_drewN | apply Kd.S_drew)); exact HO114.out) (Kd.S_base ho0) hb); have n2_ := Aside0.mk (Kd.S_lower (Kd.S_new' (Kd.S_new' ho0 (Kd.S_lt (by (with_reducible repeat (first | apply Kd.S_alloc | apply Kd.S_drewN | apply Kd.S_drew)); exact HO_3.out))) (Kd.S_lt (by (with_reducible repeat (first | apply Kd.S_alloc | apply Kd.S_drewN | apply Kd.S_drew)); exact HO114.out))) (below_size (by repeat (first | (with_reducible first | exact HB.out | apply below_alloc | apply pw_below_drewN | apply below_drew1) | exact HB.out)))); have n3_ := Aside0.mk (below_step (by repeat (first | (with_reducible first | exact HB.out | apply below_alloc | apply pw_below_drewN | apply below_drew1) | exact HB.out)) hb); clear HO_3; clear HO114; clear HB; have HO_3 := n0_; have HO114 := n1_; have HO118 := n2_; have HB := n3_; clear n0_ n1_ n2_ n3_; (try clear hb); (try clear hb2); (try clear hk); (try clear hi); (try clear ho0)))
              repeat (go_quiet (first | (go_at_call 32; (with_reducible refine (culletlaw11_copied.calls k3 _ _ t107 t112 _ ?side1 ?side2 A56.out).mono ?_); (case side1 => repeat (first | exact (Kd.S_reads' HO_3.out).2.2 | (with_reducible refine Kd.C_alloc ?_ _) | (with_reducible refine Kd.C_drewN ?_ _) | (with_reducible refine Kd.C_drew ?_))); (case side2 => exact (Kd.S_reads' HO_3.out).2.1); rintro e w66 ⟨v113, rfl, ho0, hb⟩; have n0_ := Aside0.mk (Kd.S_elder' (by (with_reducible repeat (first | apply Kd.S_alloc | apply Kd.S_drewN | apply Kd.S_drew)); exact HO_3.out) (Kd.S_base ho0) hb); have n1_ := Aside0.mk (Kd.S_lower (Kd.S_new' ho0 (Kd.S_lt (by (with_reducible repeat (first | apply Kd.S_alloc | apply Kd.S_drewN | apply Kd.S_drew)); exact HO_3.out))) (below_size (by repeat (first | (with_reducible first | exact HB.out | apply below_alloc | apply pw_below_drewN | apply below_drew1) | exact HB.out)))); have n2_ := Aside0.mk (below_step (by repeat (first | (with_reducible first | exact HB.out | apply below_alloc | apply pw_below_drewN | apply below_drew1) | exact HB.out)) hb); clear HO_3; clear HB; have HO_3 := n0_; have HO114 := n1_; have HB := n2_; clear n0_ n1_ n2_; (try clear hb); (try clear hb2); (try clear hk); (try clear hi); (try clear ho0); obtain ⟨Ao67, co67, eo67⟩ := Kd.S_slice HO114.out; subst eo67) | (go_at_call 31; (with_reducible refine (gener_Systematic.calls k3 _ _ t112 t115 t116 _ ?side1 ?side2 A57.out).mono ?_); (case side1 => repeat (first | exact (Kd.S_reads' HO114.out).2.2 | (with_reducible refine Kd.C_alloc ?_ _) | (with_reducible refine Kd.C_drewN ?_ _) | (with_reducible refine Kd.C_drew ?_))); (case side2 => exact (Kd.S_reads' HO114.out).2.1); rintro e w68 ⟨v117, rfl, ho0, hb⟩; have n0_ := Aside0.mk (Kd.S_elder' (by (with_reducible repeat (first | apply Kd.S_alloc | apply Kd.S_drewN | apply Kd.S_drew)); exact HO_3.out) (Kd.S_base ho0) hb); have n1_ := Aside0.mk (Kd.S_elder' (by (with_reducible repeat (first | apply Kd.S_alloc | apply Kd.S_drewN | apply Kd.S_drew)); exact HO114.out) (Kd.S_base ho0) hb); have n2_ := Aside0.mk (Kd.S_lower (Kd.S_new' (Kd.S_new' ho0 (Kd.S_lt (by (with_reducible repeat (first | apply Kd.S_alloc | apply Kd.S_drewN | apply Kd.S_drew)); exact HO_3.out))) (Kd.S_lt (by (with_reducible repeat (first | apply Kd.S_alloc | apply Kd.S_drewN | apply Kd.S_drew)); exact HO114.out))) (below_size (by repeat (first | (with_reducible first | exact HB.out | apply below_alloc | apply pw_below_drewN | apply below_drew1) | exact HB.out)))); have n3_ := Aside0.mk (below_step (by repeat (first | (with_reducible first | exact HB.out | apply below_alloc | apply pw_below_drewN | apply below_drew1) | exact HB.out)) hb); clear HO_3; clear HO114; clear HB; have HO_3 := n0_; have HO114 := n1_; have HO118 := n2_; have HB := n3_; clear n0_ n1_ n2_ n3_; (try clear hb); (try clear hb2); (try clear hk); (try clear hi); (try clear ho0))); try go_wp2_with (first | (go_at_call 32; (with_reducible refine (culletlaw11_copied.calls k3 _ _ t107 t112 _ ?side1 ?side2 A56.out).mono ?_); (case side1 => repeat (first | exact (Kd.S_reads' HO_3.out).2.2 | (with_reducible refine Kd.C_alloc ?_ _) | (with_reducible refine Kd.C_drewN ?_ _) | (with_reducible refine Kd.C_drew ?_))); (case side2 => exact (Kd.S_reads' HO_3.out).2.1); rintro e w66 ⟨v113, rfl, ho0, hb⟩; have n0_ := Aside0.mk (Kd.S_elder' (by (with_reducible repeat (first | apply Kd.S_alloc | apply Kd.S_drewN | apply Kd.S_drew)); exact HO_3.out) (Kd.S_base ho0) hb); have n1_ := Aside0.mk (Kd.S_lower (Kd.S_new' ho0 (Kd.S_lt (by (with_reducible repeat (first | apply Kd.S_alloc | apply Kd.S_drewN | apply Kd.S_drew)); exact HO_3.out))) (below_size (by repeat (first | (with_reducible first | exact HB.out | apply below_alloc | apply pw_below_drewN | apply below_drew1) | exact HB.out)))); have n2_ := Aside0.mk (below_step (by repeat (first | (with_reducible first | exact HB.out | apply below_alloc | apply pw_below_drewN | apply below_drew1) | exact HB.out)) hb); clear HO_3; clear HB; have HO_3 := n0_; have HO114 := n1_; have HB := n2_; clear n0_ n1_ n2_; (try clear hb); (try clear hb2); (try clear hk); (try clear hi); (try clear ho0); obtain ⟨Ao67, co67, eo67⟩ := Kd.S_slice HO114.out; subst eo67) | (go_at_call 31; (with_reducible refine (gener_Systematic.calls k3 _ _ t112 t115 t116 _ ?side1 ?side2 A57.out).mono ?_); (case side1 => repeat (first | exact (Kd.S_reads' HO114.out).2.2 | (with_reducible refine Kd.C_alloc ?_ _) | (with_reducible refine Kd.C_drewN ?_ _) | (with_reducible refine Kd.C_drew ?_))); (case side2 => exact (Kd.S_reads' HO114.out).2.1); rintro e w68 ⟨v117, rfl, ho0, hb⟩; have n0_ := Aside0.mk (Kd.S_elder' (by (with_reducible repeat (first | apply Kd.S_alloc | apply Kd.S_drewN | apply Kd.S_drew)); exact HO_3.out) (Kd.S_base ho0) hb); have n1_ := Aside0.mk (Kd.S_elder' (by (with_reducible repeat (first | apply Kd.S_alloc | apply Kd.S_drewN | apply Kd.S_drew)); exact HO114.out) (Kd.S_base ho0) hb); have n2_ := Aside0.mk (Kd.S_lower (Kd.S_new' (Kd.S_new' ho0 (Kd.S_lt (by (with_reducible repeat (first | apply Kd.S_alloc | apply Kd.S_drewN | apply Kd.S_drew)); exact HO_3.out))) (Kd.S_lt (by (with_reducible repeat (first | apply Kd.S_alloc | apply Kd.S_drewN | apply Kd.S_drew)); exact HO114.out))) (below_size (by repeat (first | (with_reducible first | exact HB.out | apply below_alloc | apply pw_below_drewN | apply below_drew1) | exact HB.out)))); have n3_ := Aside0.mk (below_step (by repeat (first | (with_reducible first | exact HB.out | apply below_alloc | apply pw_below_drewN | apply below_drew1) | exact HB.out)) hb); clear HO_3; clear HO114; clear HB; have HO_3 := n0_; have HO114 := n1_; have HO118 := n2_; have HB := n3_; clear n0_ n1_ n2_ n3_; (try clear hb); (try clear hb2); (try clear hk); (try clear hi); (try clear ho0))))
              go_ret
              exact ⟨by first | rfl | (simp [errW_none, errW_some] <;> rfl) | (simp [*, errW_none, errW_some] <;> rfl), by repeat (first | (with_reducible first | exact HB.out | apply below_alloc | apply pw_below_drewN | apply below_drew1) | exact HB.out)⟩
      ·rw [if_neg c14] at H
       exact absurd H (by simp)
     ·rw [if_neg c13] at H
      have c13b0 : (t108 == 0) = false := beq_eq_false_iff_ne.mpr c13
      have c13b1 : (t108 != 0) = true := bne_iff_ne.mpr c13
      obtain rfl := Option.some.inj H
      go_wp2_with (first | (go_at_call 32; (with_reducible refine (culletlaw11_copied.calls kj3 _ _ l0 t104 _ ?side1 ?side2 A11.out).mono ?_); (case side1 => repeat (first | exact (Kd.C_below HR0.out HB.out) | (with_reducible refine Kd.C_alloc ?_ _) | (with_reducible refine Kd.C_drewN ?_ _) | (with_reducible refine Kd.C_drew ?_))); (case side2 => exact HC0.out); rintro e w69 ⟨v105, rfl, ho0, hb⟩; have n0_ := Aside0.mk (Kd.S_lower ho0 (below_size (by repeat (first | (with_reducible first | exact HB.out | apply below_alloc | apply pw_below_drewN | apply below_drew1) | exact HB.out)))); have n1_ := Aside0.mk (below_step (by repeat (first | (with_reducible first | exact HB.out | apply below_alloc | apply pw_below_drewN | apply below_drew1) | exact HB.out)) hb); clear HB; have HO106 := n0_; have HB := n1_; clear n0_ n1_; (try clear hb); (try clear hb2); (try clear hk); (try clear hi); (try clear ho0); obtain ⟨Ao70, co70, eo70⟩ := Kd.S_slice HO106.out; subst eo70) | (go_at_call 31; (with_reducible refine (gener_Systematic.calls kj3 _ _ t104 t107 t108 _ ?side1 ?side2 A12.out).mono ?_); (case side1 => repeat (first | exact (Kd.S_reads' HO106.out).2.2 | (with_reducible refine Kd.C_alloc ?_ _) | (with_reducible refine Kd.C_drewN ?_ _) | (with_reducible refine Kd.C_drew ?_))); (case side2 => exact (Kd.S_reads' HO106.out).2.1); rintro e w71 ⟨v109, rfl, ho0, hb⟩; have n0_ := Aside0.mk (Kd.S_elder' (by (with_reducible repeat (first | apply Kd.S_alloc | apply Kd.S_drewN | apply Kd.S_drew)); exact HO106.out) (Kd.S_base ho0) hb); have n1_ := Aside0.mk (Kd.S_lower (Kd.S_new' ho0 (Kd.S_lt (by (with_reducible repeat (first | apply Kd.S_alloc | apply Kd.S_drewN | apply Kd.S_drew)); exact HO106.out))) (below_size (by repeat (first | (with_reducible first | exact HB.out | apply below_alloc | apply pw_below_drewN | apply below_drew1) | exact HB.out)))); have n2_ := Aside0.mk (below_step (by repeat (first | (with_reducible first | exact HB.out | apply below_alloc | apply pw_below_drewN | apply below_drew1) | exact HB.out)) hb); clear HO106; clear HB; have HO106 := n0_; have HO110 := n1_; have HB := n2_; clear n0_ n1_ n2_; (try clear hb); (try clear hb2); (try clear hk); (try clear hi); (try clear ho0); obtain ⟨Ao72, co72, eo72⟩ := Kd.S_slice HO110.out; subst eo72))
      repeat (go_quiet (first | (go_at_call 32; (with_reducible refine (culletlaw11_copied.calls kj3 _ _ l0 t104 _ ?side1 ?side2 A11.out).mono ?_); (case side1 => repeat (first | exact (Kd.C_below HR0.out HB.out) | (with_reducible refine Kd.C_alloc ?_ _) | (with_reducible refine Kd.C_drewN ?_ _) | (with_reducible refine Kd.C_drew ?_))); (case side2 => exact HC0.out); rintro e w69 ⟨v105, rfl, ho0, hb⟩; have n0_ := Aside0.mk (Kd.S_lower ho0 (below_size (by repeat (first | (with_reducible first | exact HB.out | apply below_alloc | apply pw_below_drewN | apply below_drew1) | exact HB.out)))); have n1_ := Aside0.mk (below_step (by repeat (first | (with_reducible first | exact HB.out | apply below_alloc | apply pw_below_drewN | apply below_drew1) | exact HB.out)) hb); clear HB; have HO106 := n0_; have HB := n1_; clear n0_ n1_; (try clear hb); (try clear hb2); (try clear hk); (try clear hi); (try clear ho0); obtain ⟨Ao70, co70, eo70⟩ := Kd.S_slice HO106.out; subst eo70) | (go_at_call 31; (with_reducible refine (gener_Systematic.calls kj3 _ _ t104 t107 t108 _ ?side1 ?side2 A12.out).mono ?_); (case side1 => repeat (first | exact (Kd.S_reads' HO106.out).2.2 | (with_reducible refine Kd.C_alloc ?_ _) | (with_reducible refine Kd.C_drewN ?_ _) | (with_reducible refine Kd.C_drew ?_))); (case side2 => exact (Kd.S_reads' HO106.out).2.1); rintro e w71 ⟨v109, rfl, ho0, hb⟩; have n0_ := Aside0.mk (Kd.S_elder' (by (with_reducible repeat (first | apply Kd.S_alloc | apply Kd.S_drewN | apply Kd.S_drew)); exact HO106.out) (Kd.S_base ho0) hb); have n1_ := Aside0.mk (Kd.S_lower (Kd.S_new' ho0 (Kd.S_lt (by (with_reducible repeat (first | apply Kd.S_alloc | apply Kd.S_drewN | apply Kd.S_drew)); exact HO106.out))) (below_size (by repeat (first | (with_reducible first | exact HB.out | apply below_alloc | apply pw_below_drewN | apply below_drew1) | exact HB.out)))); have n2_ := Aside0.mk (below_step (by repeat (first | (with_reducible first | exact HB.out | apply below_alloc | apply pw_below_drewN | apply below_drew1) | exact HB.out)) hb); clear HO106; clear HB; have HO106 := n0_; have HO110 := n1_; have HB := n2_; clear n0_ n1_ n2_; (try clear hb); (try clear hb2); (try clear hk); (try clear hi); (try clear ho0); obtain ⟨Ao72, co72, eo72⟩ := Kd.S_slice HO110.out; subst eo72)); try go_wp2_with (first | (go_at_call 32; (with_reducible refine (culletlaw11_copied.calls kj3 _ _ l0 t104 _ ?side1 ?side2 A11.out).mono ?_); (case side1 => repeat (first | exact (Kd.C_below HR0.out HB.out) | (with_reducible refine Kd.C_alloc ?_ _) | (with_reducible refine Kd.C_drewN ?_ _) | (with_reducible refine Kd.C_drew ?_))); (case side2 => exact HC0.out); rintro e w69 ⟨v105, rfl, ho0, hb⟩; have n0_ := Aside0.mk (Kd.S_lower ho0 (below_size (by repeat (first | (with_reducible first | exact HB.out | apply below_alloc | apply pw_below_drewN | apply below_drew1) | exact HB.out)))); have n1_ := Aside0.mk (below_step (by repeat (first | (with_reducible first | exact HB.out | apply below_alloc | apply pw_below_drewN | apply below_drew1) | exact HB.out)) hb); clear HB; have HO106 := n0_; have HB := n1_; clear n0_ n1_; (try clear hb); (try clear hb2); (try clear hk); (try clear hi); (try clear ho0); obtain ⟨Ao70, co70, eo70⟩ := Kd.S_slice HO106.out; subst eo70) | (go_at_call 31; (with_reducible refine (gener_Systematic.calls kj3 _ _ t104 t107 t108 _ ?side1 ?side2 A12.out).mono ?_); (case side1 => repeat (first | exact (Kd.S_reads' HO106.out).2.2 | (with_reducible refine Kd.C_alloc ?_ _) | (with_reducible refine Kd.C_drewN ?_ _) | (with_reducible refine Kd.C_drew ?_))); (case side2 => exact (Kd.S_reads' HO106.out).2.1); rintro e w71 ⟨v109, rfl, ho0, hb⟩; have n0_ := Aside0.mk (Kd.S_elder' (by (with_reducible repeat (first | apply Kd.S_alloc | apply Kd.S_drewN | apply Kd.S_drew)); exact HO106.out) (Kd.S_base ho0) hb); have n1_ := Aside0.mk (Kd.S_lower (Kd.S_new' ho0 (Kd.S_lt (by (with_reducible repeat (first | apply Kd.S_alloc | apply Kd.S_drewN | apply Kd.S_drew)); exact HO106.out))) (below_size (by repeat (first | (with_reducible first | exact HB.out | apply below_alloc | apply pw_below_drewN | apply below_drew1) | exact HB.out)))); have n2_ := Aside0.mk (below_step (by repeat (first | (with_reducible first | exact HB.out | apply below_alloc | apply pw_below_drewN | apply below_drew1) | exact HB.out)) hb); clear HO106; clear HB; have HO106 := n0_; have HO110 := n1_; have HB := n2_; clear n0_ n1_ n2_; (try clear hb); (try clear hb2); (try clear hk); (try clear hi); (try clear ho0); obtain ⟨Ao72, co72, eo72⟩ := Kd.S_slice HO110.out; subst eo72)))
      go_ret
      exact ⟨by first | rfl | (simp [errW_none, errW_some] <;> rfl) | (simp [*, errW_none, errW_some] <;> rfl), by repeat (first | (with_reducible first | exact HB.out | apply below_alloc | apply pw_below_drewN | apply below_drew1) | exact HB.out)⟩
 ·replace c3 := Bool.eq_false_iff.mpr c3
  subst c3
  have H1 : (some false) = some r := by rw [if_neg (show ¬ (false = true) by decide)] at H; exact H
  clear H
  have H := H1
  clear H1
  obtain rfl := Option.some.inj H
  go_enter Try.func13, Try.ntmps13
  go_wp2_with (first | (go_at_call 15; (with_reducible refine (culletlaw11_awake.calls k  false _ A2.out).mono ?_); rintro e w73 ⟨rfl, hb⟩; have n0_ := Aside0.mk (below_step (by repeat (first | (with_reducible first | exact HB.out | apply below_alloc | apply pw_below_drewN | apply below_drew1) | exact HB.out)) hb); clear HB; have HB := n0_; clear n0_; (try clear hb); (try clear hb2); (try clear hk); (try clear hi)))
  repeat (go_quiet (first | (go_at_call 15; (with_reducible refine (culletlaw11_awake.calls k  false _ A2.out).mono ?_); rintro e w73 ⟨rfl, hb⟩; have n0_ := Aside0.mk (below_step (by repeat (first | (with_reducible first | exact HB.out | apply below_alloc | apply pw_below_drewN | apply below_drew1) | exact HB.out)) hb); clear HB; have HB := n0_; clear n0_; (try clear hb); (try clear hb2); (try clear hk); (try clear hi))); try go_wp2_with (first | (go_at_call 15; (with_reducible refine (culletlaw11_awake.calls k  false _ A2.out).mono ?_); rintro e w73 ⟨rfl, hb⟩; have n0_ := Aside0.mk (below_step (by repeat (first | (with_reducible first | exact HB.out | apply below_alloc | apply pw_below_drewN | apply below_drew1) | exact HB.out)) hb); clear HB; have HB := n0_; clear n0_; (try clear hb); (try clear hb2); (try clear hk); (try clear hi))))
  go_ret
  exact ⟨by first | rfl | (simp [errW_none, errW_some] <;> rfl) | (simp [*, errW_none, errW_some] <;> rfl), by repeat (first | (with_reducible first | exact HB.out | apply below_alloc | apply pw_below_drewN | apply below_drew1) | exact HB.out)⟩
/-- THE ONE PURE STATEMENT of culletlaw11_GenerSquare. -/
def culletlaw11_GenerSquare.Pure : Prop := ∀ (l0 : List (List Int)), (fun l : List (List Int) => l.length * 24 ≤ 140737488351232 ∧ ∀ x ∈ l, (fun l : List Int => l.length * 1 ≤ 140737488351232 ∧ ∀ x ∈ l, (fun x : Int => (Lit.int .u8 x).wf = true) x) x) l0 → ∃ k, culletlaw11_GenerSquare.f k l0 = some true
theorem culletlaw11_GenerSquare.walk (P : culletlaw11_GenerSquare.Pure) (w : World) (l0 : List (List Int)) (A0_ : Option Addr) (c0_ : Nat) (hr0 : Kd.C (Kd.slice 5 (Kd.int .u8)) w A0_ l0.length l0) (hc0 : l0.length ≤ c0_) (w0 : (fun l : List (List Int) => l.length * 24 ≤ 140737488351232 ∧ ∀ x ∈ l, (fun l : List Int => l.length * 1 ≤ 140737488351232 ∧ ∀ x ∈ l, (fun x : Int => (Lit.int .u8 x).wf = true) x) x) l0) :
  Calls Try.prog 13 #[.slice A0_ l0.length c0_] w fun e w' => e = .returned (.bool true) ∧ Below w.heap.size w w' := by
 obtain ⟨k, h⟩ := P l0 w0
 refine (culletlaw11_GenerSquare.calls k A0_ c0_ l0 true w hr0 hc0 h).mono ?_
 rintro e w' ⟨rfl, hd⟩
 exact ⟨rfl, hd⟩

end Go.Proofs.Ytkdoilmfchlpdaa.U
