import Derived.Test.YtkdoilmfchlpdaaLx0
-- Printed for this claim by mp.py, a program of its prover, through the kit's print. Lean checks it.
namespace Go.Proofs.Ytkdoilmfchlpdaa.L
open Go.RowKit Go.Proofs.YtkdoilmfchlpdaaW.PrintWords Go.Proofs.YtkdoilmfchlpdaaW.PrintLast Go.Proofs.YtkdoilmfchlpdaaW.PrintMore Go.Proofs.Ytkdoilmfchlpdaa.A Go.Proofs.Ytkdoilmfchlpdaa.B
attribute [local go_sem] max2_int min2_int max_two min_two max_three min_three max_four min_four   -- for this text's walks alone
set_option linter.unusedVariables false
set_option linter.unusedSimpArgs false

/-! ### culletlaw11_awake: function 15: told before -/

/-! ### culletlaw11_one: function 56: told before -/

/-! ### culletlaw11_plays: function 30 -/
def culletlaw11_plays.l0 : Nat → List (S88) → Int → Int → Int → Option (Bool)
 | 0, _, _, _, _ => none
 | k + 1, x0, x1, x2, x7 => if x7 < (x0.length : Int) then (if 0 ≤ x7 then (if ((rd_T88 x0 x7).f0) ≥ x1 then (if ((rd_T88 x0 x7).f0) ≤ x2 then ((culletlaw11_one.f ((rd_T88 x0 x7).f0) ((rd_T88 x0 x7).f1) ((rd_T88 x0 x7).f2) ((rd_T88 x0 x7).f3) ((rd_T88 x0 x7).f4) ((rd_T88 x0 x7).f5) ((rd_T88 x0 x7).f6) ((rd_T88 x0 x7).f7)).bind fun t105 => (if t105 = true then (culletlaw11_plays.l0 k x0 x1 x2 (wrap64 (x7 + 1))) else (some false))) else (culletlaw11_plays.l0 k x0 x1 x2 (wrap64 (x7 + 1)))) else (culletlaw11_plays.l0 k x0 x1 x2 (wrap64 (x7 + 1)))) else (none)) else (some true)
def culletlaw11_plays.f (k : Nat) (l0 : List (S88)) (a1 : Int) (a2 : Int) : Option (Bool) := (awk11.f).bind fun t101 => (if t101 = true then (culletlaw11_plays.l0 k l0 a1 a2 0) else (some false))
theorem culletlaw11_plays.mono_l : ∀ k, (∀ y0 y1 y2 y3, LeO (culletlaw11_plays.l0 k y0 y1 y2 y3) (culletlaw11_plays.l0 (k + 1) y0 y1 y2 y3))
 | 0 => fun _ _ _ _ r h => by simp [culletlaw11_plays.l0] at h
 | k + 1 => by
  have ih0 := culletlaw11_plays.mono_l k
  ·intro y0 y1 y2 y3
   unfold culletlaw11_plays.l0
   repeat' first
   | (with_reducible exact ih0 _ _ _ _)
   | (with_reducible exact LeO.refl _)
   | (with_reducible exact LeO.none _)
   | (with_reducible refine LeO.ite ?_ ?_)
   | (with_reducible refine LeO.bind ?_ (fun _ => ?_))
   | exact ih0 _ _ _ _
   | exact LeO.none _
   | refine LeO.ite ?_ ?_
   | refine LeO.bind ?_ (fun _ => ?_)
theorem culletlaw11_plays.mono : ∀ a0 a1 a2 k, LeO (culletlaw11_plays.f k a0 a1 a2) (culletlaw11_plays.f (k + 1) a0 a1 a2) := by
 intro a0 a1 a2 k
 have ih0 := culletlaw11_plays.mono_l k
 unfold culletlaw11_plays.f
 repeat' first
   | (with_reducible exact ih0 _ _ _ _)
   | (with_reducible exact LeO.refl _)
   | (with_reducible exact LeO.none _)
   | (with_reducible refine LeO.ite ?_ ?_)
   | (with_reducible refine LeO.bind ?_ (fun _ => ?_))
   | exact ih0 _ _ _ _
   | exact LeO.none _
   | refine LeO.ite ?_ ?_
   | refine LeO.bind ?_ (fun _ => ?_)
set_option maxHeartbeats 8000000 in
set_option maxRecDepth 100000 in
theorem culletlaw11_plays.calls (k : Nat) (A0 : Option Addr) (c0 : Nat) (l0 : List (S88)) (a1 : Int) (a2 : Int) (r : Bool) (w : World) (hr0 : Kd.C k88 w A0 l0.length l0) (hc0 : l0.length ≤ c0) (h : culletlaw11_plays.f k l0 a1 a2 = some r) :
  Calls Try.prog 30 #[.slice A0 l0.length c0, .int .i64 a1, .int .i64 a2] w fun e w' => e = .returned (.bool r) ∧ Below w.heap.size w w' := by
 have hu88 := Try.underlying88
 have HR0 := Aside0.mk hr0
 have HC0 := Aside0.mk hc0
 clear hr0 hc0
 have HB := Aside0.mk (Below.refl w.heap.size w)
 have H : ((awk11.f).bind fun t101 => (if t101 = true then (culletlaw11_plays.l0 k l0 a1 a2 0) else (some false))) = some r := h
 clear h
 replace H := Option.bind_eq_some_iff.mp H
 obtain ⟨t101, A40, H⟩ := H
 replace H : (if t101 = true then (culletlaw11_plays.l0 k l0 a1 a2 0) else (some false)) = some r := H
 have A4 := Aside0.mk A40
 clear A40
 by_cases c5 : t101 = true
 ·subst c5
  have H1 : (culletlaw11_plays.l0 k l0 a1 a2 0) = some r := by rw [if_pos rfl] at H; exact H
  clear H
  have H := H1
  clear H1
  have H' := Aside0.mk H
  clear H
  go_enter Try.func30, Try.ntmps30
  go_wp2_with (first | ((with_reducible refine gate_callee (f := 15) rfl ?_); refine goesL_ (some 8) rfl rfl Try.func15 (by kernel_rfl) rfl #[] rfl (by (try simp only [List.map_toArray, List.map_cons, List.map_nil]); first | done | rfl | (simp only [tb_wrap8]; done) | (simp only [tb_wrap8]; rfl) | (simp only [List.length_drop, List.length_take]; rfl)) ?_; (with_reducible refine (awk11.calls  true _ A4.out).mono ?_); rintro e w6 ⟨rfl, hb⟩; refine ⟨_, rfl, ?_⟩; have n0_ := Aside0.mk (below_step (by repeat (first | (with_reducible first | exact HB.out | apply below_alloc | apply pw_below_drewN | apply below_drew1) | exact HB.out)) hb); clear HB; have HB := n0_; clear n0_; (try clear hb); (try clear hb2); (try clear hk); (try clear hi)))
  go_loopg [7] k (fun kq v7 w' => ∃ (x7_1 : Int), v7 = .int .i64 x7_1 ∧ Aside0 (culletlaw11_plays.l0 kq l0 a1 a2 x7_1 = some r) ∧ Aside0 (kq ≤ k) ∧ Aside0 (Below w.heap.size w w'))
  case atStart => exact ⟨(0), (by first | rfl | (simp; done) | (simp [*]; done)), H', ⟨Nat.le_refl _⟩, ⟨by repeat (first | (with_reducible first | exact HB.out | apply below_alloc | apply pw_below_drewN | apply below_drew1) | exact HB.out)⟩⟩
  case round =>
   clear H'
   try clear c1
   try clear p2
   try clear c3
   try clear c5
   obtain ⟨x7_1, rfl, HA, HK1, HB⟩ := hrel
   cases gk with
   | zero => exact absurd HA.out (by simp [culletlaw11_plays.l0])
   | succ k1 =>
    have H := HA.out
    clear HA
    simp only [culletlaw11_plays.l0] at H
    by_cases c7 : x7_1 < (l0.length : Int)
    ·rw [if_pos c7] at H
     have c7b0 : decide (x7_1 < (l0.length : Int)) = true := decide_eq_true c7
     clear c7
     by_cases c8 : 0 ≤ x7_1
     ·rw [if_pos c8] at H
      have c8b0 : decide (0 ≤ x7_1) = true := decide_eq_true c8
      clear c8
      by_cases c9 : ((rd_T88 l0 x7_1).f0) ≥ a1
      ·rw [if_pos c9] at H
       have c9b0 : decide (a1 ≤ ((rd_T88 l0 x7_1).f0)) = true := decide_eq_true c9
       clear c9
       by_cases c10 : ((rd_T88 l0 x7_1).f0) ≤ a2
       ·rw [if_pos c10] at H
        have c10b0 : decide (((rd_T88 l0 x7_1).f0) ≤ a2) = true := decide_eq_true c10
        clear c10
        replace H := Option.bind_eq_some_iff.mp H
        obtain ⟨t105, A110, H⟩ := H
        replace H : (if t105 = true then (culletlaw11_plays.l0 k1 l0 a1 a2 (wrap64 (x7_1 + 1))) else (some false)) = some r := H
        have A11 := Aside0.mk A110
        clear A110
        by_cases c12 : t105 = true
        ·subst c12
         have H1 : (culletlaw11_plays.l0 k1 l0 a1 a2 (wrap64 (x7_1 + 1))) = some r := by rw [if_pos rfl] at H; exact H
         clear H
         have H := H1
         clear H1
         have H' := Aside0.mk H
         clear H
         have p102 : 0 ≤ (x7_1 : Int) := of_decide_eq_true (by first | (with_reducible assumption) | assumption)
         have q102 : x7_1 < (l0.length : Int) := of_decide_eq_true (by first | (with_reducible assumption) | assumption)
         obtain ⟨ad102, A102_5, c102_5, A102_6, c102_6, A102_7, c102_7, e102, hx102_0, hx102_1, hx102_2, hx102_3, hx102_4, hx102_5, hx102_6, hx102_7, hl102_5, hi102_5, hl102_6, hi102_6, hl102_7, hi102_7⟩ := at_T88 HR0.out x7_1 p102 q102
         cases e102
         replace hx102_0 := (HB.out.cell (World.block_lt_of_cell? w _ hx102_0)).trans hx102_0
         replace hx102_1 := (HB.out.cell (World.block_lt_of_cell? w _ hx102_1)).trans hx102_1
         replace hx102_2 := (HB.out.cell (World.block_lt_of_cell? w _ hx102_2)).trans hx102_2
         replace hx102_3 := (HB.out.cell (World.block_lt_of_cell? w _ hx102_3)).trans hx102_3
         replace hx102_4 := (HB.out.cell (World.block_lt_of_cell? w _ hx102_4)).trans hx102_4
         replace hx102_5 := (HB.out.cell (World.block_lt_of_cell? w _ hx102_5)).trans hx102_5
         replace hx102_6 := (HB.out.cell (World.block_lt_of_cell? w _ hx102_6)).trans hx102_6
         replace hx102_7 := (HB.out.cell (World.block_lt_of_cell? w _ hx102_7)).trans hx102_7
         have HR102_5 := Aside0.mk hi102_5
         have HC102_5 := Aside0.mk hl102_5
         clear hi102_5 hl102_5
         have HR102_6 := Aside0.mk hi102_6
         have HC102_6 := Aside0.mk hl102_6
         clear hi102_6 hl102_6
         have HR102_7 := Aside0.mk hi102_7
         have HC102_7 := Aside0.mk hl102_7
         clear hi102_7 hl102_7
         replace p102 := eq_true p102
         replace q102 := eq_true q102
         have p103 : 0 ≤ (x7_1 : Int) := of_decide_eq_true (by first | (with_reducible assumption) | assumption)
         have q103 : x7_1 < (l0.length : Int) := of_decide_eq_true (by first | (with_reducible assumption) | assumption)
         obtain ⟨ad103, A103_5, c103_5, A103_6, c103_6, A103_7, c103_7, e103, hx103_0, hx103_1, hx103_2, hx103_3, hx103_4, hx103_5, hx103_6, hx103_7, hl103_5, hi103_5, hl103_6, hi103_6, hl103_7, hi103_7⟩ := at_T88 HR0.out x7_1 p103 q103
         obtain rfl : ad102 = ad103 := (by injection e103)
         replace hx103_0 := (HB.out.cell (World.block_lt_of_cell? w _ hx103_0)).trans hx103_0
         replace hx103_1 := (HB.out.cell (World.block_lt_of_cell? w _ hx103_1)).trans hx103_1
         replace hx103_2 := (HB.out.cell (World.block_lt_of_cell? w _ hx103_2)).trans hx103_2
         replace hx103_3 := (HB.out.cell (World.block_lt_of_cell? w _ hx103_3)).trans hx103_3
         replace hx103_4 := (HB.out.cell (World.block_lt_of_cell? w _ hx103_4)).trans hx103_4
         replace hx103_5 := (HB.out.cell (World.block_lt_of_cell? w _ hx103_5)).trans hx103_5
         replace hx103_6 := (HB.out.cell (World.block_lt_of_cell? w _ hx103_6)).trans hx103_6
         replace hx103_7 := (HB.out.cell (World.block_lt_of_cell? w _ hx103_7)).trans hx103_7
         have HR103_5 := Aside0.mk hi103_5
         have HC103_5 := Aside0.mk hl103_5
         clear hi103_5 hl103_5
         have HR103_6 := Aside0.mk hi103_6
         have HC103_6 := Aside0.mk hl103_6
         clear hi103_6 hl103_6
         have HR103_7 := Aside0.mk hi103_7
         have HC103_7 := Aside0.mk hl103_7
         clear hi103_7 hl103_7
         replace p103 := eq_true p103
         replace q103 := eq_true q103
         have ea_ := Option.some.inj (hx102_5.symm.trans hx103_5)
         injection ea_ with ea_ en_ ec_
         subst ea_
         subst ec_
         clear en_
         have ea_ := Option.some.inj (hx102_6.symm.trans hx103_6)
         injection ea_ with ea_ en_ ec_
         subst ea_
         subst ec_
         clear en_
         have ea_ := Option.some.inj (hx102_7.symm.trans hx103_7)
         injection ea_ with ea_ en_ ec_
         subst ea_
         subst ec_
         clear en_
         have p104 : 0 ≤ (x7_1 : Int) := of_decide_eq_true (by first | (with_reducible assumption) | assumption)
         have q104 : x7_1 < (l0.length : Int) := of_decide_eq_true (by first | (with_reducible assumption) | assumption)
         obtain ⟨ad104, A104_5, c104_5, A104_6, c104_6, A104_7, c104_7, e104, hx104_0, hx104_1, hx104_2, hx104_3, hx104_4, hx104_5, hx104_6, hx104_7, hl104_5, hi104_5, hl104_6, hi104_6, hl104_7, hi104_7⟩ := at_T88 HR0.out x7_1 p104 q104
         obtain rfl : ad102 = ad104 := (by injection e104)
         replace hx104_0 := (HB.out.cell (World.block_lt_of_cell? w _ hx104_0)).trans hx104_0
         replace hx104_1 := (HB.out.cell (World.block_lt_of_cell? w _ hx104_1)).trans hx104_1
         replace hx104_2 := (HB.out.cell (World.block_lt_of_cell? w _ hx104_2)).trans hx104_2
         replace hx104_3 := (HB.out.cell (World.block_lt_of_cell? w _ hx104_3)).trans hx104_3
         replace hx104_4 := (HB.out.cell (World.block_lt_of_cell? w _ hx104_4)).trans hx104_4
         replace hx104_5 := (HB.out.cell (World.block_lt_of_cell? w _ hx104_5)).trans hx104_5
         replace hx104_6 := (HB.out.cell (World.block_lt_of_cell? w _ hx104_6)).trans hx104_6
         replace hx104_7 := (HB.out.cell (World.block_lt_of_cell? w _ hx104_7)).trans hx104_7
         have HR104_5 := Aside0.mk hi104_5
         have HC104_5 := Aside0.mk hl104_5
         clear hi104_5 hl104_5
         have HR104_6 := Aside0.mk hi104_6
         have HC104_6 := Aside0.mk hl104_6
         clear hi104_6 hl104_6
         have HR104_7 := Aside0.mk hi104_7
         have HC104_7 := Aside0.mk hl104_7
         clear hi104_7 hl104_7
         replace p104 := eq_true p104
         replace q104 := eq_true q104
         have ea_ := Option.some.inj (hx102_5.symm.trans hx104_5)
         injection ea_ with ea_ en_ ec_
         subst ea_
         subst ec_
         clear en_
         have ea_ := Option.some.inj (hx102_6.symm.trans hx104_6)
         injection ea_ with ea_ en_ ec_
         subst ea_
         subst ec_
         clear en_
         have ea_ := Option.some.inj (hx102_7.symm.trans hx104_7)
         injection ea_ with ea_ en_ ec_
         subst ea_
         subst ec_
         clear en_
         go_wp2_with (first | (go_at_call 56; (with_reducible refine (culletlaw11_one.calls ((rd_T88 l0 x7_1).f0) ((rd_T88 l0 x7_1).f1) ((rd_T88 l0 x7_1).f2) ((rd_T88 l0 x7_1).f3) ((rd_T88 l0 x7_1).f4) _ _ ((rd_T88 l0 x7_1).f5) _ _ ((rd_T88 l0 x7_1).f6) _ _ ((rd_T88 l0 x7_1).f7) true _ ?side1 ?side2 ?side3 ?side4 ?side5 ?side6 A11.out).mono ?_); (case side1 => repeat (first | exact (Kd.C_below HR104_5.out HB.out) | (with_reducible refine Kd.C_alloc ?_ _) | (with_reducible refine Kd.C_drewN ?_ _) | (with_reducible refine Kd.C_drew ?_))); (case side2 => exact HC104_5.out); (case side3 => repeat (first | exact (Kd.C_below HR104_6.out HB.out) | (with_reducible refine Kd.C_alloc ?_ _) | (with_reducible refine Kd.C_drewN ?_ _) | (with_reducible refine Kd.C_drew ?_))); (case side4 => exact HC104_6.out); (case side5 => repeat (first | exact (Kd.C_below HR104_7.out HB.out) | (with_reducible refine Kd.C_alloc ?_ _) | (with_reducible refine Kd.C_drewN ?_ _) | (with_reducible refine Kd.C_drew ?_))); (case side6 => exact HC104_7.out); rintro e w13 ⟨rfl, hb⟩; have n0_ := Aside0.mk (below_step (by repeat (first | (with_reducible first | exact HB.out | apply below_alloc | apply pw_below_drewN | apply below_drew1) | exact HB.out)) hb); clear HB; have HB := n0_; clear n0_; (try clear hb); (try clear hb2); (try clear hk); (try clear hi)))
         go_roundg k1
         case measure => have := HK1.out; omega
         case rel => exact ⟨(wrap64 (x7_1 + 1)), (by first | rfl | (simp; done) | (simp [*]; done)), H', ⟨by have := HK1.out; omega⟩, ⟨by repeat (first | (with_reducible first | exact HB.out | apply below_alloc | apply pw_below_drewN | apply below_drew1) | exact HB.out)⟩⟩
        ·replace c12 := Bool.eq_false_iff.mpr c12
         subst c12
         have H1 : (some false) = some r := by rw [if_neg (show ¬ (false = true) by decide)] at H; exact H
         clear H
         have H := H1
         clear H1
         obtain rfl := Option.some.inj H
         have p102 : 0 ≤ (x7_1 : Int) := of_decide_eq_true (by first | (with_reducible assumption) | assumption)
         have q102 : x7_1 < (l0.length : Int) := of_decide_eq_true (by first | (with_reducible assumption) | assumption)
         obtain ⟨ad102, A102_5, c102_5, A102_6, c102_6, A102_7, c102_7, e102, hx102_0, hx102_1, hx102_2, hx102_3, hx102_4, hx102_5, hx102_6, hx102_7, hl102_5, hi102_5, hl102_6, hi102_6, hl102_7, hi102_7⟩ := at_T88 HR0.out x7_1 p102 q102
         cases e102
         replace hx102_0 := (HB.out.cell (World.block_lt_of_cell? w _ hx102_0)).trans hx102_0
         replace hx102_1 := (HB.out.cell (World.block_lt_of_cell? w _ hx102_1)).trans hx102_1
         replace hx102_2 := (HB.out.cell (World.block_lt_of_cell? w _ hx102_2)).trans hx102_2
         replace hx102_3 := (HB.out.cell (World.block_lt_of_cell? w _ hx102_3)).trans hx102_3
         replace hx102_4 := (HB.out.cell (World.block_lt_of_cell? w _ hx102_4)).trans hx102_4
         replace hx102_5 := (HB.out.cell (World.block_lt_of_cell? w _ hx102_5)).trans hx102_5
         replace hx102_6 := (HB.out.cell (World.block_lt_of_cell? w _ hx102_6)).trans hx102_6
         replace hx102_7 := (HB.out.cell (World.block_lt_of_cell? w _ hx102_7)).trans hx102_7
         have HR102_5 := Aside0.mk hi102_5
         have HC102_5 := Aside0.mk hl102_5
         clear hi102_5 hl102_5
         have HR102_6 := Aside0.mk hi102_6
         have HC102_6 := Aside0.mk hl102_6
         clear hi102_6 hl102_6
         have HR102_7 := Aside0.mk hi102_7
         have HC102_7 := Aside0.mk hl102_7
         clear hi102_7 hl102_7
         replace p102 := eq_true p102
         replace q102 := eq_true q102
         have p103 : 0 ≤ (x7_1 : Int) := of_decide_eq_true (by first | (with_reducible assumption) | assumption)
         have q103 : x7_1 < (l0.length : Int) := of_decide_eq_true (by first | (with_reducible assumption) | assumption)
         obtain ⟨ad103, A103_5, c103_5, A103_6, c103_6, A103_7, c103_7, e103, hx103_0, hx103_1, hx103_2, hx103_3, hx103_4, hx103_5, hx103_6, hx103_7, hl103_5, hi103_5, hl103_6, hi103_6, hl103_7, hi103_7⟩ := at_T88 HR0.out x7_1 p103 q103
         obtain rfl : ad102 = ad103 := (by injection e103)
         replace hx103_0 := (HB.out.cell (World.block_lt_of_cell? w _ hx103_0)).trans hx103_0
         replace hx103_1 := (HB.out.cell (World.block_lt_of_cell? w _ hx103_1)).trans hx103_1
         replace hx103_2 := (HB.out.cell (World.block_lt_of_cell? w _ hx103_2)).trans hx103_2
         replace hx103_3 := (HB.out.cell (World.block_lt_of_cell? w _ hx103_3)).trans hx103_3
         replace hx103_4 := (HB.out.cell (World.block_lt_of_cell? w _ hx103_4)).trans hx103_4
         replace hx103_5 := (HB.out.cell (World.block_lt_of_cell? w _ hx103_5)).trans hx103_5
         replace hx103_6 := (HB.out.cell (World.block_lt_of_cell? w _ hx103_6)).trans hx103_6
         replace hx103_7 := (HB.out.cell (World.block_lt_of_cell? w _ hx103_7)).trans hx103_7
         have HR103_5 := Aside0.mk hi103_5
         have HC103_5 := Aside0.mk hl103_5
         clear hi103_5 hl103_5
         have HR103_6 := Aside0.mk hi103_6
         have HC103_6 := Aside0.mk hl103_6
         clear hi103_6 hl103_6
         have HR103_7 := Aside0.mk hi103_7
         have HC103_7 := Aside0.mk hl103_7
         clear hi103_7 hl103_7
         replace p103 := eq_true p103
         replace q103 := eq_true q103
         have ea_ := Option.some.inj (hx102_5.symm.trans hx103_5)
         injection ea_ with ea_ en_ ec_
         subst ea_
         subst ec_
         clear en_
         have ea_ := Option.some.inj (hx102_6.symm.trans hx103_6)
         injection ea_ with ea_ en_ ec_
         subst ea_
         subst ec_
         clear en_
         have ea_ := Option.some.inj (hx102_7.symm.trans hx103_7)
         injection ea_ with ea_ en_ ec_
         subst ea_
         subst ec_
         clear en_
         have p104 : 0 ≤ (x7_1 : Int) := of_decide_eq_true (by first | (with_reducible assumption) | assumption)
         have q104 : x7_1 < (l0.length : Int) := of_decide_eq_true (by first | (with_reducible assumption) | assumption)
         obtain ⟨ad104, A104_5, c104_5, A104_6, c104_6, A104_7, c104_7, e104, hx104_0, hx104_1, hx104_2, hx104_3, hx104_4, hx104_5, hx104_6, hx104_7, hl104_5, hi104_5, hl104_6, hi104_6, hl104_7, hi104_7⟩ := at_T88 HR0.out x7_1 p104 q104
         obtain rfl : ad102 = ad104 := (by injection e104)
         replace hx104_0 := (HB.out.cell (World.block_lt_of_cell? w _ hx104_0)).trans hx104_0
         replace hx104_1 := (HB.out.cell (World.block_lt_of_cell? w _ hx104_1)).trans hx104_1
         replace hx104_2 := (HB.out.cell (World.block_lt_of_cell? w _ hx104_2)).trans hx104_2
         replace hx104_3 := (HB.out.cell (World.block_lt_of_cell? w _ hx104_3)).trans hx104_3
         replace hx104_4 := (HB.out.cell (World.block_lt_of_cell? w _ hx104_4)).trans hx104_4
         replace hx104_5 := (HB.out.cell (World.block_lt_of_cell? w _ hx104_5)).trans hx104_5
         replace hx104_6 := (HB.out.cell (World.block_lt_of_cell? w _ hx104_6)).trans hx104_6
         replace hx104_7 := (HB.out.cell (World.block_lt_of_cell? w _ hx104_7)).trans hx104_7
         have HR104_5 := Aside0.mk hi104_5
         have HC104_5 := Aside0.mk hl104_5
         clear hi104_5 hl104_5
         have HR104_6 := Aside0.mk hi104_6
         have HC104_6 := Aside0.mk hl104_6
         clear hi104_6 hl104_6
         have HR104_7 := Aside0.mk hi104_7
         have HC104_7 := Aside0.mk hl104_7
         clear hi104_7 hl104_7
         replace p104 := eq_true p104
         replace q104 := eq_true q104
         have ea_ := Option.some.inj (hx102_5.symm.trans hx104_5)
         injection ea_ with ea_ en_ ec_
         subst ea_
         subst ec_
         clear en_
         have ea_ := Option.some.inj (hx102_6.symm.trans hx104_6)
         injection ea_ with ea_ en_ ec_
         subst ea_
         subst ec_
         clear en_
         have ea_ := Option.some.inj (hx102_7.symm.trans hx104_7)
         injection ea_ with ea_ en_ ec_
         subst ea_
         subst ec_
         clear en_
         go_wp2_with (first | (go_at_call 56; (with_reducible refine (culletlaw11_one.calls ((rd_T88 l0 x7_1).f0) ((rd_T88 l0 x7_1).f1) ((rd_T88 l0 x7_1).f2) ((rd_T88 l0 x7_1).f3) ((rd_T88 l0 x7_1).f4) _ _ ((rd_T88 l0 x7_1).f5) _ _ ((rd_T88 l0 x7_1).f6) _ _ ((rd_T88 l0 x7_1).f7) false _ ?side1 ?side2 ?side3 ?side4 ?side5 ?side6 A11.out).mono ?_); (case side1 => repeat (first | exact (Kd.C_below HR104_5.out HB.out) | (with_reducible refine Kd.C_alloc ?_ _) | (with_reducible refine Kd.C_drewN ?_ _) | (with_reducible refine Kd.C_drew ?_))); (case side2 => exact HC104_5.out); (case side3 => repeat (first | exact (Kd.C_below HR104_6.out HB.out) | (with_reducible refine Kd.C_alloc ?_ _) | (with_reducible refine Kd.C_drewN ?_ _) | (with_reducible refine Kd.C_drew ?_))); (case side4 => exact HC104_6.out); (case side5 => repeat (first | exact (Kd.C_below HR104_7.out HB.out) | (with_reducible refine Kd.C_alloc ?_ _) | (with_reducible refine Kd.C_drewN ?_ _) | (with_reducible refine Kd.C_drew ?_))); (case side6 => exact HC104_7.out); rintro e w14 ⟨rfl, hb⟩; have n0_ := Aside0.mk (below_step (by repeat (first | (with_reducible first | exact HB.out | apply below_alloc | apply pw_below_drewN | apply below_drew1) | exact HB.out)) hb); clear HB; have HB := n0_; clear n0_; (try clear hb); (try clear hb2); (try clear hk); (try clear hi)))
         go_ret
         exact ⟨by first | rfl | (simp [errW_none, errW_some] <;> rfl) | (simp [*, errW_none, errW_some] <;> rfl), by repeat (first | (with_reducible first | exact HB.out | apply below_alloc | apply pw_below_drewN | apply below_drew1) | exact HB.out)⟩
       ·rw [if_neg c10] at H
        have c10b0 : decide (((rd_T88 l0 x7_1).f0) ≤ a2) = false := decide_eq_false c10
        clear c10
        have H' := Aside0.mk H
        clear H
        have p102 : 0 ≤ (x7_1 : Int) := of_decide_eq_true (by first | (with_reducible assumption) | assumption)
        have q102 : x7_1 < (l0.length : Int) := of_decide_eq_true (by first | (with_reducible assumption) | assumption)
        obtain ⟨ad102, A102_5, c102_5, A102_6, c102_6, A102_7, c102_7, e102, hx102_0, hx102_1, hx102_2, hx102_3, hx102_4, hx102_5, hx102_6, hx102_7, hl102_5, hi102_5, hl102_6, hi102_6, hl102_7, hi102_7⟩ := at_T88 HR0.out x7_1 p102 q102
        cases e102
        replace hx102_0 := (HB.out.cell (World.block_lt_of_cell? w _ hx102_0)).trans hx102_0
        replace hx102_1 := (HB.out.cell (World.block_lt_of_cell? w _ hx102_1)).trans hx102_1
        replace hx102_2 := (HB.out.cell (World.block_lt_of_cell? w _ hx102_2)).trans hx102_2
        replace hx102_3 := (HB.out.cell (World.block_lt_of_cell? w _ hx102_3)).trans hx102_3
        replace hx102_4 := (HB.out.cell (World.block_lt_of_cell? w _ hx102_4)).trans hx102_4
        replace hx102_5 := (HB.out.cell (World.block_lt_of_cell? w _ hx102_5)).trans hx102_5
        replace hx102_6 := (HB.out.cell (World.block_lt_of_cell? w _ hx102_6)).trans hx102_6
        replace hx102_7 := (HB.out.cell (World.block_lt_of_cell? w _ hx102_7)).trans hx102_7
        have HR102_5 := Aside0.mk hi102_5
        have HC102_5 := Aside0.mk hl102_5
        clear hi102_5 hl102_5
        have HR102_6 := Aside0.mk hi102_6
        have HC102_6 := Aside0.mk hl102_6
        clear hi102_6 hl102_6
        have HR102_7 := Aside0.mk hi102_7
        have HC102_7 := Aside0.mk hl102_7
        clear hi102_7 hl102_7
        replace p102 := eq_true p102
        replace q102 := eq_true q102
        have p103 : 0 ≤ (x7_1 : Int) := of_decide_eq_true (by first | (with_reducible assumption) | assumption)
        have q103 : x7_1 < (l0.length : Int) := of_decide_eq_true (by first | (with_reducible assumption) | assumption)
        obtain ⟨ad103, A103_5, c103_5, A103_6, c103_6, A103_7, c103_7, e103, hx103_0, hx103_1, hx103_2, hx103_3, hx103_4, hx103_5, hx103_6, hx103_7, hl103_5, hi103_5, hl103_6, hi103_6, hl103_7, hi103_7⟩ := at_T88 HR0.out x7_1 p103 q103
        obtain rfl : ad102 = ad103 := (by injection e103)
        replace hx103_0 := (HB.out.cell (World.block_lt_of_cell? w _ hx103_0)).trans hx103_0
        replace hx103_1 := (HB.out.cell (World.block_lt_of_cell? w _ hx103_1)).trans hx103_1
        replace hx103_2 := (HB.out.cell (World.block_lt_of_cell? w _ hx103_2)).trans hx103_2
        replace hx103_3 := (HB.out.cell (World.block_lt_of_cell? w _ hx103_3)).trans hx103_3
        replace hx103_4 := (HB.out.cell (World.block_lt_of_cell? w _ hx103_4)).trans hx103_4
        replace hx103_5 := (HB.out.cell (World.block_lt_of_cell? w _ hx103_5)).trans hx103_5
        replace hx103_6 := (HB.out.cell (World.block_lt_of_cell? w _ hx103_6)).trans hx103_6
        replace hx103_7 := (HB.out.cell (World.block_lt_of_cell? w _ hx103_7)).trans hx103_7
        have HR103_5 := Aside0.mk hi103_5
        have HC103_5 := Aside0.mk hl103_5
        clear hi103_5 hl103_5
        have HR103_6 := Aside0.mk hi103_6
        have HC103_6 := Aside0.mk hl103_6
        clear hi103_6 hl103_6
        have HR103_7 := Aside0.mk hi103_7
        have HC103_7 := Aside0.mk hl103_7
        clear hi103_7 hl103_7
        replace p103 := eq_true p103
        replace q103 := eq_true q103
        have ea_ := Option.some.inj (hx102_5.symm.trans hx103_5)
        injection ea_ with ea_ en_ ec_
        subst ea_
        subst ec_
        clear en_
        have ea_ := Option.some.inj (hx102_6.symm.trans hx103_6)
        injection ea_ with ea_ en_ ec_
        subst ea_
        subst ec_
        clear en_
        have ea_ := Option.some.inj (hx102_7.symm.trans hx103_7)
        injection ea_ with ea_ en_ ec_
        subst ea_
        subst ec_
        clear en_
        go_wp2
        go_roundg k1
        case measure => have := HK1.out; omega
        case rel => exact ⟨(wrap64 (x7_1 + 1)), (by first | rfl | (simp; done) | (simp [*]; done)), H', ⟨by have := HK1.out; omega⟩, ⟨by repeat (first | (with_reducible first | exact HB.out | apply below_alloc | apply pw_below_drewN | apply below_drew1) | exact HB.out)⟩⟩
      ·rw [if_neg c9] at H
       have c9b0 : decide (a1 ≤ ((rd_T88 l0 x7_1).f0)) = false := decide_eq_false c9
       clear c9
       have H' := Aside0.mk H
       clear H
       have p102 : 0 ≤ (x7_1 : Int) := of_decide_eq_true (by first | (with_reducible assumption) | assumption)
       have q102 : x7_1 < (l0.length : Int) := of_decide_eq_true (by first | (with_reducible assumption) | assumption)
       obtain ⟨ad102, A102_5, c102_5, A102_6, c102_6, A102_7, c102_7, e102, hx102_0, hx102_1, hx102_2, hx102_3, hx102_4, hx102_5, hx102_6, hx102_7, hl102_5, hi102_5, hl102_6, hi102_6, hl102_7, hi102_7⟩ := at_T88 HR0.out x7_1 p102 q102
       cases e102
       replace hx102_0 := (HB.out.cell (World.block_lt_of_cell? w _ hx102_0)).trans hx102_0
       replace hx102_1 := (HB.out.cell (World.block_lt_of_cell? w _ hx102_1)).trans hx102_1
       replace hx102_2 := (HB.out.cell (World.block_lt_of_cell? w _ hx102_2)).trans hx102_2
       replace hx102_3 := (HB.out.cell (World.block_lt_of_cell? w _ hx102_3)).trans hx102_3
       replace hx102_4 := (HB.out.cell (World.block_lt_of_cell? w _ hx102_4)).trans hx102_4
       replace hx102_5 := (HB.out.cell (World.block_lt_of_cell? w _ hx102_5)).trans hx102_5
       replace hx102_6 := (HB.out.cell (World.block_lt_of_cell? w _ hx102_6)).trans hx102_6
       replace hx102_7 := (HB.out.cell (World.block_lt_of_cell? w _ hx102_7)).trans hx102_7
       have HR102_5 := Aside0.mk hi102_5
       have HC102_5 := Aside0.mk hl102_5
       clear hi102_5 hl102_5
       have HR102_6 := Aside0.mk hi102_6
       have HC102_6 := Aside0.mk hl102_6
       clear hi102_6 hl102_6
       have HR102_7 := Aside0.mk hi102_7
       have HC102_7 := Aside0.mk hl102_7
       clear hi102_7 hl102_7
       replace p102 := eq_true p102
       replace q102 := eq_true q102
       go_wp2
       go_roundg k1
       case measure => have := HK1.out; omega
       case rel => exact ⟨(wrap64 (x7_1 + 1)), (by first | rfl | (simp; done) | (simp [*]; done)), H', ⟨by have := HK1.out; omega⟩, ⟨by repeat (first | (with_reducible first | exact HB.out | apply below_alloc | apply pw_below_drewN | apply below_drew1) | exact HB.out)⟩⟩
     ·rw [if_neg c8] at H
      exact absurd H (by simp)
    ·rw [if_neg c7] at H
     have c7b0 : decide (x7_1 < (l0.length : Int)) = false := decide_eq_false c7
     clear c7
     obtain rfl := Option.some.inj H
     go_wp2
     go_ret
     exact ⟨by first | rfl | (simp [errW_none, errW_some] <;> rfl) | (simp [*, errW_none, errW_some] <;> rfl), by repeat (first | (with_reducible first | exact HB.out | apply below_alloc | apply pw_below_drewN | apply below_drew1) | exact HB.out)⟩
 ·replace c5 := Bool.eq_false_iff.mpr c5
  subst c5
  have H1 : (some false) = some r := by rw [if_neg (show ¬ (false = true) by decide)] at H; exact H
  clear H
  have H := H1
  clear H1
  obtain rfl := Option.some.inj H
  go_enter Try.func30, Try.ntmps30
  go_wp2_with (first | ((with_reducible refine gate_callee (f := 15) rfl ?_); refine goesL_ (some 8) rfl rfl Try.func15 (by kernel_rfl) rfl #[] rfl (by (try simp only [List.map_toArray, List.map_cons, List.map_nil]); first | done | rfl | (simp only [tb_wrap8]; done) | (simp only [tb_wrap8]; rfl) | (simp only [List.length_drop, List.length_take]; rfl)) ?_; (with_reducible refine (awk11.calls  false _ A4.out).mono ?_); rintro e w15 ⟨rfl, hb⟩; refine ⟨_, rfl, ?_⟩; have n0_ := Aside0.mk (below_step (by repeat (first | (with_reducible first | exact HB.out | apply below_alloc | apply pw_below_drewN | apply below_drew1) | exact HB.out)) hb); clear HB; have HB := n0_; clear n0_; (try clear hb); (try clear hb2); (try clear hk); (try clear hi)))
  go_ret
  exact ⟨by first | rfl | (simp [errW_none, errW_some] <;> rfl) | (simp [*, errW_none, errW_some] <;> rfl), by repeat (first | (with_reducible first | exact HB.out | apply below_alloc | apply pw_below_drewN | apply below_drew1) | exact HB.out)⟩

/-! ### culletlaw11_GenerWords: function 10 -/
def culletlaw11_GenerWords.f (k : Nat) (l0 : List (S88)) : Option (Bool) := (culletlaw11_plays.f k l0 4 4).bind fun t106 => (some t106)
theorem culletlaw11_GenerWords.mono : ∀ a0 k, LeO (culletlaw11_GenerWords.f k a0) (culletlaw11_GenerWords.f (k + 1) a0) := by
 intro a0 k
 unfold culletlaw11_GenerWords.f
 repeat' first
   | (with_reducible exact culletlaw11_plays.mono _ _ _ _)
   | (with_reducible exact LeO.refl _)
   | (with_reducible exact LeO.none _)
   | (with_reducible refine LeO.ite ?_ ?_)
   | (with_reducible refine LeO.bind ?_ (fun _ => ?_))
   | exact culletlaw11_plays.mono _ _ _ _
   | exact LeO.none _
   | refine LeO.ite ?_ ?_
   | refine LeO.bind ?_ (fun _ => ?_)
set_option maxHeartbeats 8000000 in
set_option maxRecDepth 100000 in
theorem culletlaw11_GenerWords.calls (k : Nat) (A0 : Option Addr) (c0 : Nat) (l0 : List (S88)) (r : Bool) (w : World) (hr0 : Kd.C k88 w A0 l0.length l0) (hc0 : l0.length ≤ c0) (h : culletlaw11_GenerWords.f k l0 = some r) :
  Calls Try.prog 10 #[.slice A0 l0.length c0] w fun e w' => e = .returned (.bool r) ∧ Below w.heap.size w w' := by
 have HR0 := Aside0.mk hr0
 have HC0 := Aside0.mk hc0
 clear hr0 hc0
 have HB := Aside0.mk (Below.refl w.heap.size w)
 have H : ((culletlaw11_plays.f k l0 4 4).bind fun t106 => (some t106)) = some r := h
 clear h
 replace H := Option.bind_eq_some_iff.mp H
 obtain ⟨t106, A20, H⟩ := H
 replace H : (some t106) = some r := H
 have A2 := Aside0.mk A20
 clear A20
 obtain rfl := Option.some.inj H
 go_enter Try.func10, Try.ntmps10
 go_wp2_with (first | ((with_reducible refine gate_callee (f := 30) rfl ?_); refine goesL_ (some 4) rfl rfl Try.func30 (by kernel_rfl) rfl #[.slice A0 l0.length c0, .int .i64 4, .int .i64 4] rfl (by (try simp only [List.map_toArray, List.map_cons, List.map_nil]); first | done | rfl | (simp only [tb_wrap8]; done) | (simp only [tb_wrap8]; rfl) | (simp only [List.length_drop, List.length_take]; rfl)) ?_; (with_reducible refine (culletlaw11_plays.calls k _ _ l0 4 4 t106 _ ?side1 ?side2 A2.out).mono ?_); (case side1 => repeat (first | exact HR0.out | (with_reducible refine Kd.C_alloc ?_ _) | (with_reducible refine Kd.C_drewN ?_ _) | (with_reducible refine Kd.C_drew ?_))); (case side2 => exact HC0.out); rintro e w3 ⟨rfl, hb⟩; refine ⟨_, rfl, ?_⟩; have n0_ := Aside0.mk (below_step (by repeat (first | (with_reducible first | exact HB.out | apply below_alloc | apply pw_below_drewN | apply below_drew1) | exact HB.out)) hb); clear HB; have HB := n0_; clear n0_; (try clear hb); (try clear hb2); (try clear hk); (try clear hi)))
 go_ret
 exact ⟨by first | rfl | (simp [errW_none, errW_some] <;> rfl) | (simp [*, errW_none, errW_some] <;> rfl), by repeat (first | (with_reducible first | exact HB.out | apply below_alloc | apply pw_below_drewN | apply below_drew1) | exact HB.out)⟩
/-- What a value of struct type 88 keeps to. -/
def okT88 (x : S88) : Prop := (fun x : Int => (Lit.int .i64 x).wf = true) x.f0 ∧ (fun x : Int => (Lit.int .i64 x).wf = true) x.f1 ∧ (fun x : Int => (Lit.int .i64 x).wf = true) x.f2 ∧ (fun x : Int => (Lit.int .i64 x).wf = true) x.f3 ∧ (fun x : Int => (Lit.int .i64 x).wf = true) x.f4 ∧ (fun l : List Int => l.length * 8 ≤ 140737488351232 ∧ ∀ x ∈ l, (fun x : Int => (Lit.int .i64 x).wf = true) x) x.f5 ∧ (fun l : List Int => l.length * 8 ≤ 140737488351232 ∧ ∀ x ∈ l, (fun x : Int => (Lit.int .i64 x).wf = true) x) x.f6 ∧ (fun l : List (List Int) => l.length * 24 ≤ 140737488351232 ∧ ∀ x ∈ l, (fun l : List Int => l.length * 1 ≤ 140737488351232 ∧ ∀ x ∈ l, (fun x : Int => (Lit.int .u8 x).wf = true) x) x) x.f7
/-- THE ONE PURE STATEMENT of culletlaw11_GenerWords. -/
def culletlaw11_GenerWords.Pure : Prop := ∀ (l0 : List (S88)), (fun l : List (S88) => l.length * 112 ≤ 140737488351232 ∧ ∀ x ∈ l, okT88 x) l0 → ∃ k, culletlaw11_GenerWords.f k l0 = some true
theorem culletlaw11_GenerWords.walk (P : culletlaw11_GenerWords.Pure) (w : World) (l0 : List (S88)) (A0_ : Option Addr) (c0_ : Nat) (hr0 : Kd.C k88 w A0_ l0.length l0) (hc0 : l0.length ≤ c0_) (w0 : (fun l : List (S88) => l.length * 112 ≤ 140737488351232 ∧ ∀ x ∈ l, okT88 x) l0) :
  Calls Try.prog 10 #[.slice A0_ l0.length c0_] w fun e w' => e = .returned (.bool true) ∧ Below w.heap.size w w' := by
 obtain ⟨k, h⟩ := P l0 w0
 refine (culletlaw11_GenerWords.calls k A0_ c0_ l0 true w hr0 hc0 h).mono ?_
 rintro e w' ⟨rfl, hd⟩
 exact ⟨rfl, hd⟩

end Go.Proofs.Ytkdoilmfchlpdaa.L
