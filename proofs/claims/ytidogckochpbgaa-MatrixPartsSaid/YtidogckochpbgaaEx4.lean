import Derived.Test.YtidogckochpbgaaEx0
-- Printed for this claim by mp.py, a program of its prover, through the kit's print. Lean checks it.
namespace Go.Proofs.Ytidogckochpbgaa.E
open Go.RowKit Go.Proofs.YtidogckochpbgaaW.PrintWords Go.Proofs.YtidogckochpbgaaW.PrintLast Go.Proofs.YtidogckochpbgaaW.PrintMore Go.Proofs.Ytidogckochpbgaa.A
attribute [local go_sem] max2_int min2_int max_two min_two max_three min_three max_four min_four   -- for this text's walks alone
set_option linter.unusedVariables false
set_option linter.unusedSimpArgs false

/-! ### culletref10_Sub: function 61 -/
mutual
def culletref10_Sub.j0 : Nat → List (List Int) → Int → Int → Int → Int → Bool → Option ((List (List Int)) × Int)
 | 0, _, _, _, _, _, _ => none
 | k + 1, x0, x1, x2, x3, x4, x47 => if x47 = true then (some (([] : List (List Int)), 7)) else ((culletref10_zeros.f k (wrap64 (x2 - x1)) (wrap64 (x4 - x3))).bind fun t134 => (culletref10_Sub.l0 k x0 x1 x2 x3 x4 t134 x1))
def culletref10_Sub.l0 : Nat → List (List Int) → Int → Int → Int → Int → List (List Int) → Int → Option ((List (List Int)) × Int)
 | 0, _, _, _, _, _, _, _ => none
 | k + 1, x0, x1, x2, x3, x4, x12, x13 => if x13 < x2 then (culletref10_Sub.l1 k x0 x1 x2 x3 x4 x12 x13 x3) else (some (x12, 0))
def culletref10_Sub.l1 : Nat → List (List Int) → Int → Int → Int → Int → List (List Int) → Int → Int → Option ((List (List Int)) × Int)
 | 0, _, _, _, _, _, _, _, _ => none
 | k + 1, x0, x1, x2, x3, x4, x12, x13, x14 => if x14 < x4 then (if 0 ≤ (wrap64 (x13 - x1)) then (if (wrap64 (x13 - x1)) < (x12.length : Int) then (if 0 ≤ x13 then (if x13 < (x0.length : Int) then (if 0 ≤ x14 then (if x14 < ((rd_L1 x0 x13).length : Int) then (if 0 ≤ (wrap64 (x14 - x3)) then (if (wrap64 (x14 - x3)) < ((rd_L1 x12 (wrap64 (x13 - x1))).length : Int) then (culletref10_Sub.l1 k x0 x1 x2 x3 x4 (x12.set ((wrap64 (x13 - x1)) : Int).toNat ((rd_L1 x12 (wrap64 (x13 - x1))).set ((wrap64 (x14 - x3)) : Int).toNat (rd (rd_L1 x0 x13) x14))) x13 (wrap64 (x14 + 1))) else (none)) else (none)) else (none)) else (none)) else (none)) else (none)) else (none)) else (none)) else (culletref10_Sub.l0 k x0 x1 x2 x3 x4 x12 (wrap64 (x13 + 1)))
end
def culletref10_Sub.f (k : Nat) (l0 : List (List Int)) (a1 : Int) (a2 : Int) (a3 : Int) (a4 : Int) : Option ((List (List Int)) × Int) := (culletref10_Check.f k l0).bind fun t132 => (if t132 = 0 then (if a1 < 0 then (culletref10_Sub.j0 k l0 a1 a2 a3 a4 true) else (if a1 ≥ a2 then (culletref10_Sub.j0 k l0 a1 a2 a3 a4 true) else (if a2 > (l0.length : Int) then (culletref10_Sub.j0 k l0 a1 a2 a3 a4 true) else (if a3 < 0 then (culletref10_Sub.j0 k l0 a1 a2 a3 a4 true) else (if a3 ≥ a4 then (culletref10_Sub.j0 k l0 a1 a2 a3 a4 true) else (if 0 < (l0.length : Int) then (culletref10_Sub.j0 k l0 a1 a2 a3 a4 (decide (a4 > ((rd_L1 l0 0).length : Int)))) else (none))))))) else (some (([] : List (List Int)), 100)))
theorem culletref10_Sub.mono_l : ∀ k, (∀ y0 y1 y2 y3 y4 y5, LeO (culletref10_Sub.j0 k y0 y1 y2 y3 y4 y5) (culletref10_Sub.j0 (k + 1) y0 y1 y2 y3 y4 y5)) ∧ (∀ y0 y1 y2 y3 y4 y5 y6, LeO (culletref10_Sub.l0 k y0 y1 y2 y3 y4 y5 y6) (culletref10_Sub.l0 (k + 1) y0 y1 y2 y3 y4 y5 y6)) ∧ (∀ y0 y1 y2 y3 y4 y5 y6 y7, LeO (culletref10_Sub.l1 k y0 y1 y2 y3 y4 y5 y6 y7) (culletref10_Sub.l1 (k + 1) y0 y1 y2 y3 y4 y5 y6 y7))
 | 0 => ⟨fun _ _ _ _ _ _ r h => by simp [culletref10_Sub.j0] at h, fun _ _ _ _ _ _ _ r h => by simp [culletref10_Sub.l0] at h, fun _ _ _ _ _ _ _ _ r h => by simp [culletref10_Sub.l1] at h⟩
 | k + 1 => by
  obtain ⟨ih0, ih1, ih2⟩ := culletref10_Sub.mono_l k
  refine ⟨?_, ?_, ?_⟩
  ·intro y0 y1 y2 y3 y4 y5
   unfold culletref10_Sub.j0
   repeat' first
   | (with_reducible exact ih0 _ _ _ _ _ _)
   | (with_reducible exact ih1 _ _ _ _ _ _ _)
   | (with_reducible exact ih2 _ _ _ _ _ _ _ _)
   | (with_reducible exact culletref10_Check.mono _ _)
   | (with_reducible exact culletref10_zeros.mono _ _ _)
   | (with_reducible exact LeO.refl _)
   | (with_reducible exact LeO.none _)
   | (with_reducible refine LeO.ite ?_ ?_)
   | (with_reducible refine LeO.bind ?_ (fun _ => ?_))
   | exact ih0 _ _ _ _ _ _
   | exact ih1 _ _ _ _ _ _ _
   | exact ih2 _ _ _ _ _ _ _ _
   | exact culletref10_Check.mono _ _
   | exact culletref10_zeros.mono _ _ _
   | exact LeO.none _
   | refine LeO.ite ?_ ?_
   | refine LeO.bind ?_ (fun _ => ?_)
  ·intro y0 y1 y2 y3 y4 y5 y6
   unfold culletref10_Sub.l0
   repeat' first
   | (with_reducible exact ih0 _ _ _ _ _ _)
   | (with_reducible exact ih1 _ _ _ _ _ _ _)
   | (with_reducible exact ih2 _ _ _ _ _ _ _ _)
   | (with_reducible exact culletref10_Check.mono _ _)
   | (with_reducible exact culletref10_zeros.mono _ _ _)
   | (with_reducible exact LeO.refl _)
   | (with_reducible exact LeO.none _)
   | (with_reducible refine LeO.ite ?_ ?_)
   | (with_reducible refine LeO.bind ?_ (fun _ => ?_))
   | exact ih0 _ _ _ _ _ _
   | exact ih1 _ _ _ _ _ _ _
   | exact ih2 _ _ _ _ _ _ _ _
   | exact culletref10_Check.mono _ _
   | exact culletref10_zeros.mono _ _ _
   | exact LeO.none _
   | refine LeO.ite ?_ ?_
   | refine LeO.bind ?_ (fun _ => ?_)
  ·intro y0 y1 y2 y3 y4 y5 y6 y7
   unfold culletref10_Sub.l1
   repeat' first
   | (with_reducible exact ih0 _ _ _ _ _ _)
   | (with_reducible exact ih1 _ _ _ _ _ _ _)
   | (with_reducible exact ih2 _ _ _ _ _ _ _ _)
   | (with_reducible exact culletref10_Check.mono _ _)
   | (with_reducible exact culletref10_zeros.mono _ _ _)
   | (with_reducible exact LeO.refl _)
   | (with_reducible exact LeO.none _)
   | (with_reducible refine LeO.ite ?_ ?_)
   | (with_reducible refine LeO.bind ?_ (fun _ => ?_))
   | exact ih0 _ _ _ _ _ _
   | exact ih1 _ _ _ _ _ _ _
   | exact ih2 _ _ _ _ _ _ _ _
   | exact culletref10_Check.mono _ _
   | exact culletref10_zeros.mono _ _ _
   | exact LeO.none _
   | refine LeO.ite ?_ ?_
   | refine LeO.bind ?_ (fun _ => ?_)
theorem culletref10_Sub.mono : ∀ a0 a1 a2 a3 a4 k, LeO (culletref10_Sub.f k a0 a1 a2 a3 a4) (culletref10_Sub.f (k + 1) a0 a1 a2 a3 a4) := by
 intro a0 a1 a2 a3 a4 k
 obtain ⟨ih0, ih1, ih2⟩ := culletref10_Sub.mono_l k
 unfold culletref10_Sub.f
 repeat' first
   | (with_reducible exact ih0 _ _ _ _ _ _)
   | (with_reducible exact ih1 _ _ _ _ _ _ _)
   | (with_reducible exact ih2 _ _ _ _ _ _ _ _)
   | (with_reducible exact culletref10_Check.mono _ _)
   | (with_reducible exact culletref10_zeros.mono _ _ _)
   | (with_reducible exact LeO.refl _)
   | (with_reducible exact LeO.none _)
   | (with_reducible refine LeO.ite ?_ ?_)
   | (with_reducible refine LeO.bind ?_ (fun _ => ?_))
   | exact ih0 _ _ _ _ _ _
   | exact ih1 _ _ _ _ _ _ _
   | exact ih2 _ _ _ _ _ _ _ _
   | exact culletref10_Check.mono _ _
   | exact culletref10_zeros.mono _ _ _
   | exact LeO.none _
   | refine LeO.ite ?_ ?_
   | refine LeO.bind ?_ (fun _ => ?_)
def culletref10_Sub.T12 : Bool × List (List Nat × List Nat) := (true, [([], []), ([], []), ([], []), ([1, 2], [1, 2]), ([0, 3], [0, 3]), ([4], [4]), ([], []), ([], []), ([6, 7], [6, 7]), ([], []), ([], []), ([9, 10], [9, 10]), ([11], [11]), ([], []), ([12, 13], [12, 13]), ([14], [14]), ([5, 8, 0, 1, 2, 3, 4, 5, 6, 7, 8, 9, 10, 11, 12, 13, 14, 15], [5, 8]), ([16, 15, 0, 1, 2, 3, 4, 5, 6, 7, 8, 9, 10, 11, 12, 13, 14, 15], [15, 16])])
def culletref10_Sub.B12 : List Nat := [0, 0, 0, 6, 15, 31, 0, 0, 192, 0, 0, 1536, 3584, 0, 15872, 32256, 65535, 131071]
theorem culletref10_Sub.tab12 : rtab .any (opsOf Try.f61 12) = culletref10_Sub.T12 := by kernel_rfl
theorem culletref10_Sub.bits12 : waitsOk culletref10_Sub.T12.2 culletref10_Sub.B12 = true := by kernel_rfl
set_option maxHeartbeats 8000000 in
set_option maxRecDepth 100000 in
theorem culletref10_Sub.calls (k : Nat) (A0 : Option Addr) (c0 : Nat) (l0 : List (List Int)) (a1 : Int) (a2 : Int) (a3 : Int) (a4 : Int) (r1 : List (List Int)) (r2 : Int) (w : World) (hr0 : Kd.C (Kd.slice 5 (Kd.int .u8)) w A0 l0.length l0) (hc0 : l0.length ≤ c0) (h : culletref10_Sub.f k l0 a1 a2 a3 a4 = some (r1, r2)) :
  Calls Try.prog 61 #[.slice A0 l0.length c0, .int .i64 a1, .int .i64 a2, .int .i64 a3, .int .i64 a4] w fun e w' => ∃ v0_ : Value, e = .returned (.tuple #[v0_, .int .i64 r2]) ∧ Kd.S (Kd.slice 5 (Kd.int .u8)) 31 w' w.heap.size (fun _ => True) v0_ r1 ∧ Below w.heap.size w w' := by
 have HR0 := Aside0.mk hr0
 have HC0 := Aside0.mk hc0
 clear hr0 hc0
 have HB := Aside0.mk (Below.refl w.heap.size w)
 have H : ((culletref10_Check.f k l0).bind fun t132 => (if t132 = 0 then (if a1 < 0 then (culletref10_Sub.j0 k l0 a1 a2 a3 a4 true) else (if a1 ≥ a2 then (culletref10_Sub.j0 k l0 a1 a2 a3 a4 true) else (if a2 > (l0.length : Int) then (culletref10_Sub.j0 k l0 a1 a2 a3 a4 true) else (if a3 < 0 then (culletref10_Sub.j0 k l0 a1 a2 a3 a4 true) else (if a3 ≥ a4 then (culletref10_Sub.j0 k l0 a1 a2 a3 a4 true) else (if 0 < (l0.length : Int) then (culletref10_Sub.j0 k l0 a1 a2 a3 a4 (decide (a4 > ((rd_L1 l0 0).length : Int)))) else (none))))))) else (some (([] : List (List Int)), 100)))) = some (r1, r2) := h
 clear h
 replace H := Option.bind_eq_some_iff.mp H
 obtain ⟨t132, A60, H⟩ := H
 replace H : (if t132 = 0 then (if a1 < 0 then (culletref10_Sub.j0 k l0 a1 a2 a3 a4 true) else (if a1 ≥ a2 then (culletref10_Sub.j0 k l0 a1 a2 a3 a4 true) else (if a2 > (l0.length : Int) then (culletref10_Sub.j0 k l0 a1 a2 a3 a4 true) else (if a3 < 0 then (culletref10_Sub.j0 k l0 a1 a2 a3 a4 true) else (if a3 ≥ a4 then (culletref10_Sub.j0 k l0 a1 a2 a3 a4 true) else (if 0 < (l0.length : Int) then (culletref10_Sub.j0 k l0 a1 a2 a3 a4 (decide (a4 > ((rd_L1 l0 0).length : Int)))) else (none))))))) else (some (([] : List (List Int)), 100))) = some (r1, r2) := H
 have A6 := Aside0.mk A60
 clear A60
 by_cases c7 : t132 = 0
 ·rw [if_pos c7] at H
  have c7b0 : (t132 == 0) = true := beq_iff_eq.mpr c7
  have c7b1 : (t132 != 0) = false := bne_eq_false_iff_eq.mpr c7
  clear c7
  have HC8 := Aside0.mk H
  clear H
  go_enter Try.func61, Try.ntmps61
  go_upto_region 3 with (first | ((with_reducible refine gate_callee (f := 55) rfl ?_); refine goesL_ (some 16) rfl rfl Try.func55 (by kernel_rfl) rfl #[.slice A0 l0.length c0] rfl (by (try simp only [List.map_toArray, List.map_cons, List.map_nil]); first | done | rfl | (simp only [tb_wrap8]; done) | (simp only [tb_wrap8]; rfl) | (simp only [List.length_drop, List.length_take]; rfl)) ?_; (with_reducible refine (culletref10_Check.calls k _ _ l0 t132 _ ?side1 ?side2 A6.out).mono ?_); (case side1 => repeat (first | exact HR0.out | (with_reducible refine Kd.C_alloc ?_ _) | (with_reducible refine Kd.C_drewN ?_ _) | (with_reducible refine Kd.C_drew ?_))); (case side2 => exact HC0.out); rintro e w' ⟨rfl, ⟨nd, rfl⟩⟩; refine ⟨_, rfl, ?_⟩))
  (try simp only [Act.put, List.setIfInBounds_toArray, List.set_cons_zero, List.set_cons_succ])
  go_cut [47] (fun v47 wc => ∃ (kq : Nat) (x47_7 : Bool), v47 = .bool x47_7 ∧ Aside0 (culletref10_Sub.j0 kq l0 a1 a2 a3 a4 x47_7 = some (r1, r2)) ∧ Aside0 (kq ≤ k) ∧ Aside0 (Below w.heap.size w wc))
  case first =>
   have H := HC8.out
   clear HC8
   by_cases c9 : a1 < 0
   ·rw [if_pos c9] at H
    have c9b0 : decide (a1 < 0) = true := decide_eq_true c9
    clear c9
    (first | rw [c9b0] | (simp only [i64_w, i32_w]; rw [c9b0]) | skip)
    have H' := Aside0.mk H
    clear H
    go_wp2
    go_meet
    case rel => exact ⟨_, (true), (by first | rfl | (simp; done) | (simp [*]; done)), H', ⟨by first | omega | exact Nat.le_refl _⟩, ⟨by repeat (first | (with_reducible first | exact HB.out | apply below_alloc | apply pw_below_drewN | apply below_drew1) | exact HB.out)⟩⟩
   ·rw [if_neg c9] at H
    have c9b0 : decide (a1 < 0) = false := decide_eq_false c9
    clear c9
    (first | rw [c9b0] | (simp only [i64_w, i32_w]; rw [c9b0]) | skip)
    by_cases c10 : a1 ≥ a2
    ·rw [if_pos c10] at H
     have c10b0 : decide (a2 ≤ a1) = true := decide_eq_true c10
     clear c10
     have H' := Aside0.mk H
     clear H
     go_wp2
     go_meet
     case rel => exact ⟨_, (true), (by first | rfl | (simp; done) | (simp [*]; done)), H', ⟨by first | omega | exact Nat.le_refl _⟩, ⟨by repeat (first | (with_reducible first | exact HB.out | apply below_alloc | apply pw_below_drewN | apply below_drew1) | exact HB.out)⟩⟩
    ·rw [if_neg c10] at H
     have c10b0 : decide (a2 ≤ a1) = false := decide_eq_false c10
     clear c10
     by_cases c11 : a2 > (l0.length : Int)
     ·rw [if_pos c11] at H
      have c11b0 : decide ((l0.length : Int) < a2) = true := decide_eq_true c11
      clear c11
      have H' := Aside0.mk H
      clear H
      go_wp2
      go_meet
      case rel => exact ⟨_, (true), (by first | rfl | (simp; done) | (simp [*]; done)), H', ⟨by first | omega | exact Nat.le_refl _⟩, ⟨by repeat (first | (with_reducible first | exact HB.out | apply below_alloc | apply pw_below_drewN | apply below_drew1) | exact HB.out)⟩⟩
     ·rw [if_neg c11] at H
      have c11b0 : decide ((l0.length : Int) < a2) = false := decide_eq_false c11
      clear c11
      by_cases c12 : a3 < 0
      ·rw [if_pos c12] at H
       have c12b0 : decide (a3 < 0) = true := decide_eq_true c12
       clear c12
       have H' := Aside0.mk H
       clear H
       go_wp2
       go_meet
       case rel => exact ⟨_, (true), (by first | rfl | (simp; done) | (simp [*]; done)), H', ⟨by first | omega | exact Nat.le_refl _⟩, ⟨by repeat (first | (with_reducible first | exact HB.out | apply below_alloc | apply pw_below_drewN | apply below_drew1) | exact HB.out)⟩⟩
      ·rw [if_neg c12] at H
       have c12b0 : decide (a3 < 0) = false := decide_eq_false c12
       clear c12
       by_cases c13 : a3 ≥ a4
       ·rw [if_pos c13] at H
        have c13b0 : decide (a4 ≤ a3) = true := decide_eq_true c13
        clear c13
        have H' := Aside0.mk H
        clear H
        go_wp2
        go_meet
        case rel => exact ⟨_, (true), (by first | rfl | (simp; done) | (simp [*]; done)), H', ⟨by first | omega | exact Nat.le_refl _⟩, ⟨by repeat (first | (with_reducible first | exact HB.out | apply below_alloc | apply pw_below_drewN | apply below_drew1) | exact HB.out)⟩⟩
       ·rw [if_neg c13] at H
        have c13b0 : decide (a4 ≤ a3) = false := decide_eq_false c13
        clear c13
        by_cases c14 : 0 < (l0.length : Int)
        ·rw [if_pos c14] at H
         have c14b0 : decide (0 < (l0.length : Int)) = true := decide_eq_true c14
         have c14b1 : decide (0 < l0.length) = true := decide_eq_true (by omega)
         clear c14
         have H' := Aside0.mk H
         clear H
         have p133 : 0 ≤ (0 : Int) := (by omega)
         have q133 : 0 < (l0.length : Int) := of_decide_eq_true (by first | (with_reducible assumption) | assumption)
         obtain ⟨ad133, A133_0, c133_0, e133, hx133_0, hl133_0, hi133_0⟩ := at_L1 HR0.out 0 p133 q133
         cases e133
         have qi133 : (0 < l0.length) = True := eq_true (by omega)
         (try rw [show ((0 : Int)).toNat = 0 from rfl] at hx133_0)
         (try rw [Addr.add_zero'] at hx133_0)
         replace hx133_0 := (HB.out.cell (World.block_lt_of_cell? w _ hx133_0)).trans hx133_0
         have HR133_0 := Aside0.mk hi133_0
         have HC133_0 := Aside0.mk hl133_0
         clear hi133_0 hl133_0
         replace p133 := eq_true p133
         replace q133 := eq_true q133
         go_wp2
         go_meet
         case rel => exact ⟨_, (decide (a4 > ((rd_L1 l0 0).length : Int))), (by first | rfl | (simp; done) | (simp [*]; done)), H', ⟨by first | omega | exact Nat.le_refl _⟩, ⟨by repeat (first | (with_reducible first | exact HB.out | apply below_alloc | apply pw_below_drewN | apply below_drew1) | exact HB.out)⟩⟩
        ·rw [if_neg c14] at H
         exact absurd H (by simp)
  case rest =>
   clear HC8
   try clear c1
   try clear p1
   try clear q1
   try clear hx1
   try clear qi1
   try clear p2
   try clear c5
   try clear c6
   try clear c7
   try clear c7b0
   try clear c7b1
   try clear p8
   try clear c9
   try clear c9b0
   try clear c10
   try clear c10b0
   try clear c11
   try clear c11b0
   try clear c12
   try clear c12b0
   try clear c13
   try clear c13b0
   try clear p13
   try clear q13
   try clear hx13
   try clear qi13
   try clear c14
   try clear c14b0
   try clear c14b1
   try clear hx133_0
   try clear p133
   try clear q133
   obtain ⟨kq, x47_7, rfl, HA, HJ7, HB⟩ := hcut
   cases kq with
   | zero => exact absurd HA.out (by simp [culletref10_Sub.j0])
   | succ kj7 =>
    have H := HA.out
    clear HA
    simp only [culletref10_Sub.j0] at H
    by_cases c15 : x47_7 = true
    ·subst c15
     have H1 : (some (([] : List (List Int)), 7)) = some (r1, r2) := by rw [if_pos rfl] at H; exact H
     clear H
     have H := H1
     clear H1
     simp only [Option.some.injEq, Prod.mk.injEq] at H
     obtain ⟨rfl, rfl⟩ := H
     go_wp2
     go_ret2
     exact ⟨_, by first | rfl | (simp [errW_none, errW_some] <;> rfl) | (simp [*, errW_none, errW_some] <;> rfl), by first | exact Kd.S_nil _ _ _ _ _ | exact Kd.N_nil _ _ _ _ _ | exact Kd.V_nil _ _ _ _ _ | exact Kd.Q_nil _ _ _ _ _ | exact Kd.R_nil _ _ _ _ _, by repeat (first | (with_reducible first | exact HB.out | apply below_alloc | apply pw_below_drewN | apply below_drew1) | exact HB.out)⟩
    ·replace c15 := Bool.eq_false_iff.mpr c15
     subst c15
     have H1 : ((culletref10_zeros.f kj7 (wrap64 (a2 - a1)) (wrap64 (a4 - a3))).bind fun t134 => (culletref10_Sub.l0 kj7 l0 a1 a2 a3 a4 t134 a1)) = some (r1, r2) := by rw [if_neg (show ¬ (false = true) by decide)] at H; exact H
     clear H
     have H := H1
     clear H1
     replace H := Option.bind_eq_some_iff.mp H
     obtain ⟨t134, A160, H⟩ := H
     replace H : (culletref10_Sub.l0 kj7 l0 a1 a2 a3 a4 t134 a1) = some (r1, r2) := H
     have A16 := Aside0.mk A160
     clear A160
     have H' := Aside0.mk H
     clear H
     go_wp2_with (first | ((with_reducible refine gate_callee (f := 70) rfl ?_); refine goesL_ (some 54) rfl rfl Try.func70 (by kernel_rfl) rfl #[.int .i64 (wrap64 (a2 - a1)), .int .i64 (wrap64 (a4 - a3))] rfl (by (try simp only [List.map_toArray, List.map_cons, List.map_nil]); first | done | rfl | (simp only [tb_wrap8]; done) | (simp only [tb_wrap8]; rfl) | (simp only [List.length_drop, List.length_take]; rfl)) ?_; (with_reducible refine (culletref10_zeros.calls kj7 (wrap64 (a2 - a1)) (wrap64 (a4 - a3)) t134 _ A16.out).mono ?_); rintro e w17 ⟨v135, rfl, ho0, hb⟩; refine ⟨_, rfl, ?_⟩; have n0_ := Aside0.mk (Kd.S_lower ho0 (below_size (by repeat (first | (with_reducible first | exact HB.out | apply below_alloc | apply pw_below_drewN | apply below_drew1) | exact HB.out)))); have n1_ := Aside0.mk (below_step (by repeat (first | (with_reducible first | exact HB.out | apply below_alloc | apply pw_below_drewN | apply below_drew1) | exact HB.out)) hb); clear HB; have HO136 := n0_; have HB := n1_; clear n0_ n1_; (try clear hb); (try clear hb2); (try clear hk); (try clear hi); (try clear ho0)))
     go_loopg [13] kj7 (fun kq v13 w' => ∃ (x12_2 : List (List Int)) (x13_2 : Int), v13 = .int .i64 x13_2 ∧ Aside0 (culletref10_Sub.l0 kq l0 a1 a2 a3 a4 x12_2 x13_2 = some (r1, r2)) ∧ Aside0 (kq ≤ kj7) ∧ Aside0 (Kd.S (Kd.slice 5 (Kd.int .u8)) 31 w' w.heap.size (fun _ => True) v135 x12_2) ∧ Aside0 (Below w.heap.size w w'))
     case atStart => exact ⟨(t134), (a1), (by first | rfl | (simp; done) | (simp [*]; done)), H', ⟨Nat.le_refl _⟩, ⟨by (with_reducible repeat (first | apply Kd.S_alloc | apply Kd.S_drewN | apply Kd.S_drew)); exact HO136.out⟩, ⟨by repeat (first | (with_reducible first | exact HB.out | apply below_alloc | apply pw_below_drewN | apply below_drew1) | exact HB.out)⟩⟩
     case round =>
      clear H'
      try clear c1
      try clear p1
      try clear q1
      try clear hx1
      try clear qi1
      try clear p2
      try clear c5
      try clear c6
      try clear p6
      try clear c7
      try clear c7b0
      try clear c7b1
      try clear p8
      try clear c9
      try clear c9b0
      try clear c10
      try clear c10b0
      try clear c11
      try clear c11b0
      try clear c12
      try clear c12b0
      try clear c13
      try clear c13b0
      try clear p13
      try clear q13
      try clear hx13
      try clear qi13
      try clear c14
      try clear c14b0
      try clear c14b1
      try clear c15
      try clear hx133_0
      try clear p1
      try clear p13
      try clear p133
      try clear p2
      try clear p8
      try clear q1
      try clear q13
      try clear q133
      obtain ⟨x12_2, x13_2, rfl, HA, HK2, HO_12, HB⟩ := hrel
      cases gk with
      | zero => exact absurd HA.out (by simp [culletref10_Sub.l0])
      | succ k2 =>
       have H := HA.out
       clear HA
       simp only [culletref10_Sub.l0] at H
       by_cases c18 : x13_2 < a2
       ·rw [if_pos c18] at H
        have c18b0 : decide (x13_2 < a2) = true := decide_eq_true c18
        clear c18
        have H' := Aside0.mk H
        clear H
        go_wp2
        go_loopg [14] k2 (fun kq v14 w' => ∃ (x12_3 : List (List Int)) (x14_3 : Int), v14 = .int .i64 x14_3 ∧ Aside0 (culletref10_Sub.l1 kq l0 a1 a2 a3 a4 x12_3 x13_2 x14_3 = some (r1, r2)) ∧ Aside0 (kq ≤ k2) ∧ Aside0 (Kd.S (Kd.slice 5 (Kd.int .u8)) 31 w' w.heap.size (fun _ => True) v135 x12_3) ∧ Aside0 (Below w.heap.size w w'))
        case atStart => exact ⟨(x12_2), (a3), (by first | rfl | (simp; done) | (simp [*]; done)), H', ⟨Nat.le_refl _⟩, ⟨by (with_reducible repeat (first | apply Kd.S_alloc | apply Kd.S_drewN | apply Kd.S_drew)); exact HO_12.out⟩, ⟨by repeat (first | (with_reducible first | exact HB.out | apply below_alloc | apply pw_below_drewN | apply below_drew1) | exact HB.out)⟩⟩
        case round =>
         clear H'
         try clear c1
         try clear p1
         try clear q1
         try clear hx1
         try clear qi1
         try clear p2
         try clear c5
         try clear c6
         try clear p6
         try clear c7
         try clear c7b0
         try clear c7b1
         try clear p8
         try clear c9
         try clear c9b0
         try clear c10
         try clear c10b0
         try clear c11
         try clear c11b0
         try clear c12
         try clear c12b0
         try clear c13
         try clear c13b0
         try clear p13
         try clear q13
         try clear hx13
         try clear qi13
         try clear c14
         try clear c14b0
         try clear c14b1
         try clear c15
         try clear c18
         try clear c18b0
         try clear hx133_0
         try clear p1
         try clear p13
         try clear p133
         try clear p2
         try clear p6
         try clear p8
         try clear q1
         try clear q13
         try clear q133
         obtain ⟨x12_3, x14_3, rfl, HA, HK3, HO_12, HB⟩ := hrel
         cases gk with
         | zero => exact absurd HA.out (by simp [culletref10_Sub.l1])
         | succ k3 =>
          have H := HA.out
          clear HA
          simp only [culletref10_Sub.l1] at H
          by_cases c19 : x14_3 < a4
          ·rw [if_pos c19] at H
           have c19b0 : decide (x14_3 < a4) = true := decide_eq_true c19
           clear c19
           obtain ⟨ji20, hji20⟩ : ∃ j_ : Int, (wrap64 (x13_2 - a1)) = j_ := ⟨_, rfl⟩
           replace H : (if 0 ≤ (ji20) then (if (ji20) < (x12_3.length : Int) then (if 0 ≤ x13_2 then (if x13_2 < (l0.length : Int) then (if 0 ≤ x14_3 then (if x14_3 < ((rd_L1 l0 x13_2).length : Int) then (if 0 ≤ (wrap64 (x14_3 - a3)) then (if (wrap64 (x14_3 - a3)) < ((rd_L1 x12_3 (ji20)).length : Int) then (culletref10_Sub.l1 k3 l0 a1 a2 a3 a4 (x12_3.set ((ji20) : Int).toNat ((rd_L1 x12_3 (ji20)).set ((wrap64 (x14_3 - a3)) : Int).toNat (rd (rd_L1 l0 x13_2) x14_3))) x13_2 (wrap64 (x14_3 + 1))) else (none)) else (none)) else (none)) else (none)) else (none)) else (none)) else (none)) else (none)) = some (r1, r2) := by first | (rw [hji20] at H; exact H) | (simp only [hji20] at H ⊢; exact H)
           have hji20w : (IntKind.i64.wrap (x13_2 - a1)) = ji20 := (i64_w _).trans hji20
           by_cases c21 : 0 ≤ (ji20)
           ·rw [if_pos c21] at H
            have c21b0 : decide (0 ≤ (ji20)) = true := decide_eq_true c21
            clear c21
            by_cases c22 : (ji20) < (x12_3.length : Int)
            ·rw [if_pos c22] at H
             have c22b0 : decide ((ji20) < (x12_3.length : Int)) = true := decide_eq_true c22
             clear c22
             by_cases c23 : 0 ≤ x13_2
             ·rw [if_pos c23] at H
              have c23b0 : decide (0 ≤ x13_2) = true := decide_eq_true c23
              clear c23
              by_cases c24 : x13_2 < (l0.length : Int)
              ·rw [if_pos c24] at H
               have c24b0 : decide (x13_2 < (l0.length : Int)) = true := decide_eq_true c24
               clear c24
               by_cases c25 : 0 ≤ x14_3
               ·rw [if_pos c25] at H
                have c25b0 : decide (0 ≤ x14_3) = true := decide_eq_true c25
                clear c25
                by_cases c26 : x14_3 < ((rd_L1 l0 x13_2).length : Int)
                ·rw [if_pos c26] at H
                 have c26b0 : decide (x14_3 < ((rd_L1 l0 x13_2).length : Int)) = true := decide_eq_true c26
                 clear c26
                 obtain ⟨ji27, hji27⟩ : ∃ j_ : Int, (wrap64 (x14_3 - a3)) = j_ := ⟨_, rfl⟩
                 replace H : (if 0 ≤ (ji27) then (if (ji27) < ((rd_L1 x12_3 (ji20)).length : Int) then (culletref10_Sub.l1 k3 l0 a1 a2 a3 a4 (x12_3.set ((ji20) : Int).toNat ((rd_L1 x12_3 (ji20)).set ((ji27) : Int).toNat (rd (rd_L1 l0 x13_2) x14_3))) x13_2 (wrap64 (x14_3 + 1))) else (none)) else (none)) = some (r1, r2) := by first | (rw [hji27] at H; exact H) | (simp only [hji27] at H ⊢; exact H)
                 have hji27w : (IntKind.i64.wrap (x14_3 - a3)) = ji27 := (i64_w _).trans hji27
                 by_cases c28 : 0 ≤ (ji27)
                 ·rw [if_pos c28] at H
                  have c28b0 : decide (0 ≤ (ji27)) = true := decide_eq_true c28
                  clear c28
                  by_cases c29 : (ji27) < ((rd_L1 x12_3 (ji20)).length : Int)
                  ·rw [if_pos c29] at H
                   have c29b0 : decide ((ji27) < ((rd_L1 x12_3 (ji20)).length : Int)) = true := decide_eq_true c29
                   clear c29
                   obtain ⟨y140, hy140⟩ : ∃ y_ : List Int, y_ = ((rd_L1 x12_3 (ji20)).set ((ji27) : Int).toNat (rd (rd_L1 l0 x13_2) x14_3)) := ⟨_, rfl⟩
                   replace H : (culletref10_Sub.l1 k3 l0 a1 a2 a3 a4 (x12_3.set ((ji20) : Int).toNat y140) x13_2 (wrap64 (x14_3 + 1))) = some (r1, r2) := by first | (rw [hy140]; with_reducible exact H) | (have H2_ := (Option.bind_some _ _).symm.trans H; rw [hy140]; with_reducible exact H2_) | (have H2_ := (Option.bind_some _ _).symm.trans H; with_reducible exact H2_) | with_reducible exact H | (rw [hy140]; exact H) | exact H
                   have Ny140 := Aside0.mk hy140
                   clear hy140
                   obtain ⟨y142, hy142⟩ : ∃ y_ : List (List Int), y_ = (x12_3.set ((ji20) : Int).toNat y140) := ⟨_, rfl⟩
                   replace H : (culletref10_Sub.l1 k3 l0 a1 a2 a3 a4 y142 x13_2 (wrap64 (x14_3 + 1))) = some (r1, r2) := by first | (rw [hy142]; with_reducible exact H) | (have H2_ := (Option.bind_some _ _).symm.trans H; rw [hy142]; with_reducible exact H2_) | (have H2_ := (Option.bind_some _ _).symm.trans H; with_reducible exact H2_) | with_reducible exact H | (rw [hy142]; exact H) | exact H
                   have Ny142 := Aside0.mk hy142
                   clear hy142
                   have H' := Aside0.mk H
                   clear H
                   try go_wp2
                   have n0_ := Aside0.mk (Kd.S_drew HO_12.out)
                   have n1_ := Aside0.mk (below_drew1 HB.out)
                   clear HO_12
                   clear HB
                   have HO_12 := n0_
                   have HB := n1_
                   clear n0_ n1_
                   obtain ⟨Ao32, co32, eo32⟩ := Kd.S_slice HO_12.out
                   (first | subst eo32 | (injection eo32 with f1_ f2_ f3_; have f4_ := f1_.symm; have f5_ := f3_.symm; clear f1_ f2_ f3_; subst f4_; subst f5_))
                   have p137 : 0 ≤ ((ji20) : Int) := of_decide_eq_true (by first | (with_reducible assumption) | assumption)
                   have q137 : (ji20) < (x12_3.length : Int) := of_decide_eq_true (by first | (with_reducible assumption) | assumption)
                   obtain ⟨ad137, A137_0, c137_0, e137, hx137_0, hl137_0, hi137_0⟩ := at_L1 (Kd.S_reads' HO_12.out).2.2 (ji20) p137 q137
                   cases e137
                   obtain ⟨ce137, hce137, hMe137, hcc137⟩ := Kd.S_get HO_12.out [] (ji20) p137 (by first | exact q137 | exact of_decide_eq_true (by first | (with_reducible assumption) | assumption) | (have e_ := (Kd.S_reads' HO_12.out).1; omega))
                   obtain ⟨ve137_0, rfl, ge137_0⟩ := hMe137
                   have hv137_0 := hcc137 0 _ rfl
                   rw [Nat.add_zero, show ((Kd.slice 5 (Kd.int .u8))).sz = 1 from rfl, Nat.mul_one] at hv137_0
                   replace hv137_0 := Option.some.inj (hv137_0.symm.trans hx137_0)
                   rw [hv137_0] at ge137_0
                   have HL137_0 := Aside0.mk (show Kd.R (Kd.int .u8) 5 _ _ _ _ (rd_L1 x12_3 (ji20)) from ge137_0)
                   clear hv137_0 ge137_0
                   have HX137_0 := Aside0.mk hx137_0
                   clear hcc137 hce137
                   have HR137_0 := Aside0.mk hi137_0
                   have HC137_0 := Aside0.mk hl137_0
                   clear hi137_0 hl137_0
                   replace p137 := eq_true p137
                   replace q137 := eq_true q137
                   have p138 : 0 ≤ (x13_2 : Int) := of_decide_eq_true (by first | (with_reducible assumption) | assumption)
                   have q138 : x13_2 < (l0.length : Int) := of_decide_eq_true (by first | (with_reducible assumption) | assumption)
                   obtain ⟨ad138, A138_0, c138_0, e138, hx138_0, hl138_0, hi138_0⟩ := at_L1 HR0.out x13_2 p138 q138
                   have hw138_0 := hx138_0
                   cases e138
                   replace hx138_0 := (HB.out.cell (World.block_lt_of_cell? w _ hx138_0)).trans hx138_0
                   have HR138_0 := Aside0.mk hi138_0
                   have HC138_0 := Aside0.mk hl138_0
                   clear hi138_0 hl138_0
                   replace p138 := eq_true p138
                   replace q138 := eq_true q138
                   have p139 : 0 ≤ (x14_3 : Int) := of_decide_eq_true (by first | (with_reducible assumption) | assumption)
                   have q139 : x14_3 < ((rd_L1 l0 x13_2).length : Int) := of_decide_eq_true (by first | (with_reducible assumption) | assumption)
                   obtain ⟨ad139, e139, hx139_0⟩ := Kd.at_int HR138_0.out x14_3 p139 q139
                   have hw139_0 := hx139_0
                   cases e139
                   replace hx139_0 := (HB.out.cell (World.block_lt_of_cell? w _ hx139_0)).trans hx139_0
                   replace p139 := eq_true p139
                   replace q139 := eq_true q139
                   have p30 : 0 ≤ ((ji27) : Int) := of_decide_eq_true (by first | (with_reducible assumption) | assumption)
                   have q30 : ((ji27) : Int) < (((rd_L1 x12_3 (ji20)).length : Int) : Int) := of_decide_eq_true (by first | (with_reducible assumption) | assumption)
                   obtain ⟨go30, co30, eo30, gb30, gl30, cl30, HG30⟩ := Kd.R_form HL137_0.out (by omega)
                   (first | cases eo30 | (injection eo30 with ea_ en_ ec_; (first | subst ea_ | (injection ea_ with ea_; subst ea_)); subst ec_; clear en_))
                   have GB30 := Aside0.mk gb30
                   have GG30 := Aside0.mk HG30
                   clear gb30 gl30 HG30
                   obtain ⟨hx30_0, hf30_0⟩ := Kd.R_celln 0 HL137_0.out ((ji27) : Int) p30 q30
                   replace p30 := eq_true p30
                   replace q30 := eq_true q30
                   have hq33 : ((ji20) : Int) < (x12_3.length : Int) := (by have h_ : ((ji20) : Int) < ((x12_3.length : Int) : Int) := of_decide_eq_true (by first | (with_reducible assumption) | assumption); first | exact h_ | (have e_ := (Kd.S_reads' HO_12.out).1; omega) | simpa only [List.length_set, List.length_set] using h_)
                   obtain ⟨oki33, ce33, hcl33, hM33, hcc33, hok33, hbk33⟩ := Kd.S_borrow HO_12.out [] ((ji20) : Int) (of_decide_eq_true (by first | (with_reducible assumption) | assumption)) hq33
                   obtain ⟨ve33_0, rfl, ge33_0⟩ := hM33
                   have hv33 := hcc33 0 _ rfl
                   rw [Nat.add_zero, show ((Kd.slice 5 (Kd.int .u8))).sz = 1 from rfl, Nat.mul_one] at hv33
                   replace hv33 := Option.some.inj (hv33.symm.trans HX137_0.out)
                   subst hv33
                   clear hcc33 hcl33
                   replace ge33_0 := (show Kd.R (Kd.int .u8) 5 _ _ _ _ (rd_L1 x12_3 (ji20)) from ge33_0)
                   have HP33 := Kd.R_putg ge33_0 ((ji27) : Int) (rd (rd_L1 l0 x13_2) x14_3)
                   rw [← Ny140.out] at HP33
                   have HS33 := hbk33 HP33.2 (fun k_ e_ => by injection e_ with e_; subst e_; exact ge33_0.1 _ rfl) (x' := y140) (Kd.M_row HP33.1)
                   rw [← Ny142.out] at HS33
                   have HQ33 := Aside0.mk HS33
                   clear HP33 HS33 hbk33 hok33
                   refine start_ (n := 18) (S := fun w' => w'.cell? (ad137.add ((ji20)).toNat) = some (.slice (some ⟨go30, 0, none⟩) (rd_L1 x12_3 (ji20)).length c137_0) ∧ w'.cell? (ad138.add (x13_2).toNat) = some (.slice (some ad139) (rd_L1 l0 x13_2).length c138_0) ∧ w'.cell? (ad139.add (x14_3).toNat) = some (.int .u8 (rd (rd_L1 l0 x13_2) x14_3))) (ds := [17]) #[false, false, false, false, false, false, false, false, false, false, false, false, false, false, false, false, false, false] (by kernel_rfl) rfl rfl ⟨hx137_0, ((HB.out.cell (World.block_lt_of_cell? w _ hw138_0)).trans hw138_0), ((HB.out.cell (World.block_lt_of_cell? w _ hw139_0)).trans hw139_0)⟩ (fun hHeld => ?_); refine with_tabW culletref10_Sub.tab12 culletref10_Sub.bits12 (fun HT_ HW_ => ?_)
                   generalize wr.drew = w31 at HO_12 HB GG30 HL137_0 HQ33 HR137_0 HR138_0 HX137_0 hf30_0 hx137_0 hx138_0 hx139_0 hx30_0 hHeld ⊢
                   refine pure_ (i := 0) (N := some 67) (v := ?_) (a' := ?_) #[true, false, false, false, false, false, false, false, false, false, false, false, false, false, false, false, false, false] rfl rfl (any_of HT_.out (by kernel_rfl)) (fun _ _ _ h => h) (Or.inl ⟨by rfl, ?_⟩) ?_ ?_
                   rotate_left
                   ·intro w'
                    go_simp
                    with_reducible rfl
                   rotate_left
                   ·simp only [Act.put, List.setIfInBounds_toArray, List.set_cons_zero, List.set_cons_succ, i64_w, i32_w]
                    rfl
                   refine pure_ (i := 1) (N := some 68) (v := ?_) (a' := ?_) #[true, true, false, false, false, false, false, false, false, false, false, false, false, false, false, false, false, false] rfl rfl (any_of HT_.out (by kernel_rfl)) (fun _ _ _ h => h) (Or.inl ⟨by rfl, ?_⟩) ?_ ?_
                   rotate_left
                   ·intro w'
                    go_simp
                    with_reducible rfl
                   rotate_left
                   ·simp only [Act.put, List.setIfInBounds_toArray, List.set_cons_zero, List.set_cons_succ, i64_w, i32_w]
                    rfl
                   refine pure_ (i := 2) (N := some 69) (v := ?_) (a' := ?_) #[true, true, true, false, false, false, false, false, false, false, false, false, false, false, false, false, false, false] rfl rfl (any_of HT_.out (by kernel_rfl)) (fun _ _ _ h => h) (Or.inl ⟨by rfl, ?_⟩) ?_ ?_
                   rotate_left
                   ·intro w'
                    go_simp
                    with_reducible rfl
                   rotate_left
                   ·simp only [Act.put, List.setIfInBounds_toArray, List.set_cons_zero, List.set_cons_succ, i64_w, i32_w]
                    rfl
                   refine pure_ (i := 3) (N := some 70) (v := ?_) (a' := ?_) #[true, true, true, true, false, false, false, false, false, false, false, false, false, false, false, false, false, false] rfl rfl (any_of HT_.out (by kernel_rfl)) (fun _ _ _ h => h) (Or.inl ⟨by rfl, ?_⟩) ?_ ?_
                   rotate_left
                   ·intro w'
                    go_simp
                    with_reducible rfl
                   rotate_left
                   ·simp only [Act.put, List.setIfInBounds_toArray, List.set_cons_zero, List.set_cons_succ, i64_w, i32_w]
                    rfl
                   refine pure_ (i := 4) (N := some 71) (v := ?_) (a' := ?_) #[true, true, true, true, true, false, false, false, false, false, false, false, false, false, false, false, false, false] rfl rfl (any_of HT_.out (by kernel_rfl)) (fun _ _ _ h => h) (Or.inl ⟨by rfl, ?_⟩) ?_ ?_
                   rotate_left
                   ·intro w'
                    go_simp
                    with_reducible rfl
                   rotate_left
                   ·simp only [Act.put, List.setIfInBounds_toArray, List.set_cons_zero, List.set_cons_succ, i64_w, i32_w]
                    rfl
                   refine pure_ (i := 6) (N := some 73) (v := ?_) (a' := ?_) #[true, true, true, true, true, false, true, false, false, false, false, false, false, false, false, false, false, false] rfl rfl (any_of HT_.out (by kernel_rfl)) (fun _ _ _ h => h) (Or.inl ⟨by rfl, ?_⟩) ?_ ?_
                   rotate_left
                   ·intro w'
                    go_simp
                    with_reducible rfl
                   rotate_left
                   ·simp only [Act.put, List.setIfInBounds_toArray, List.set_cons_zero, List.set_cons_succ, i64_w, i32_w]
                    rfl
                   refine pure_ (i := 7) (N := some 74) (v := ?_) (a' := ?_) #[true, true, true, true, true, false, true, true, false, false, false, false, false, false, false, false, false, false] rfl rfl (any_of HT_.out (by kernel_rfl)) (fun _ _ _ h => h) (Or.inl ⟨by rfl, ?_⟩) ?_ ?_
                   rotate_left
                   ·intro w'
                    go_simp
                    with_reducible rfl
                   rotate_left
                   ·simp only [Act.put, List.setIfInBounds_toArray, List.set_cons_zero, List.set_cons_succ, i64_w, i32_w]
                    rfl
                   refine pure_ (i := 8) (N := some 75) (v := ?_) (a' := ?_) #[true, true, true, true, true, false, true, true, true, false, false, false, false, false, false, false, false, false] rfl rfl (any_of HT_.out (by kernel_rfl)) (fun _ _ _ h => h) (Or.inl ⟨by rfl, ?_⟩) ?_ ?_
                   rotate_left
                   ·intro w'
                    go_simp
                    with_reducible rfl
                   rotate_left
                   ·simp only [Act.put, List.setIfInBounds_toArray, List.set_cons_zero, List.set_cons_succ, i64_w, i32_w]
                    rfl
                   refine pure_ (i := 9) (N := some 76) (v := ?_) (a' := ?_) #[true, true, true, true, true, false, true, true, true, true, false, false, false, false, false, false, false, false] rfl rfl (any_of HT_.out (by kernel_rfl)) (fun _ _ _ h => h) (Or.inl ⟨by rfl, ?_⟩) ?_ ?_
                   rotate_left
                   ·intro w'
                    go_simp
                    with_reducible rfl
                   rotate_left
                   ·simp only [Act.put, List.setIfInBounds_toArray, List.set_cons_zero, List.set_cons_succ, i64_w, i32_w]
                    rfl
                   refine pure_ (i := 10) (N := some 77) (v := ?_) (a' := ?_) #[true, true, true, true, true, false, true, true, true, true, true, false, false, false, false, false, false, false] rfl rfl (any_of HT_.out (by kernel_rfl)) (fun _ _ _ h => h) (Or.inl ⟨by rfl, ?_⟩) ?_ ?_
                   rotate_left
                   ·intro w'
                    go_simp
                    with_reducible rfl
                   rotate_left
                   ·simp only [Act.put, List.setIfInBounds_toArray, List.set_cons_zero, List.set_cons_succ, i64_w, i32_w]
                    rfl
                   refine pure_ (i := 11) (N := some 78) (v := ?_) (a' := ?_) #[true, true, true, true, true, false, true, true, true, true, true, true, false, false, false, false, false, false] rfl rfl (any_of HT_.out (by kernel_rfl)) (fun _ _ _ h => h) (Or.inl ⟨by rfl, ?_⟩) ?_ ?_
                   rotate_left
                   ·intro w'
                    go_simp
                    with_reducible rfl
                   rotate_left
                   ·simp only [Act.put, List.setIfInBounds_toArray, List.set_cons_zero, List.set_cons_succ, i64_w, i32_w]
                    rfl
                   refine pure_ (i := 13) (N := some 80) (v := ?_) (a' := ?_) #[true, true, true, true, true, false, true, true, true, true, true, true, false, true, false, false, false, false] rfl rfl (any_of HT_.out (by kernel_rfl)) (fun _ _ _ h => h) (Or.inl ⟨by rfl, ?_⟩) ?_ ?_
                   rotate_left
                   ·intro w'
                    go_simp
                    with_reducible rfl
                   rotate_left
                   ·simp only [Act.put, List.setIfInBounds_toArray, List.set_cons_zero, List.set_cons_succ, i64_w, i32_w]
                    rfl
                   refine take_ (i := 5) (N := some 72) (v := ?_) (a' := ?_) #[true, true, true, true, true, true, true, true, true, true, true, true, false, true, false, false, false, false] rfl rfl (take_ofW HT_.out HW_.out (by kernel_rfl)) (fun _ _ _ h => h) (Or.inl ⟨by rfl, ?_⟩) hHeld ?_ ?_
                   rotate_left
                   ·rintro w' ⟨s0, s1, s2⟩
                    go_simp
                    with_reducible rfl
                   rotate_left
                   ·simp only [Act.put, List.setIfInBounds_toArray, List.set_cons_zero, List.set_cons_succ, i64_w, i32_w]
                    rfl
                   refine take_ (i := 12) (N := some 79) (v := ?_) (a' := ?_) #[true, true, true, true, true, true, true, true, true, true, true, true, true, true, false, false, false, false] rfl rfl (take_ofW HT_.out HW_.out (by kernel_rfl)) (fun _ _ _ h => h) (Or.inl ⟨by rfl, ?_⟩) hHeld ?_ ?_
                   rotate_left
                   ·rintro w' ⟨s0, s1, s2⟩
                    go_simp
                    with_reducible rfl
                   rotate_left
                   ·simp only [Act.put, List.setIfInBounds_toArray, List.set_cons_zero, List.set_cons_succ, i64_w, i32_w]
                    rfl
                   refine pure_ (i := 14) (N := some 81) (v := ?_) (a' := ?_) #[true, true, true, true, true, true, true, true, true, true, true, true, true, true, true, false, false, false] rfl rfl (any_of HT_.out (by kernel_rfl)) (fun _ _ _ h => h) (Or.inl ⟨by rfl, ?_⟩) ?_ ?_
                   rotate_left
                   ·intro w'
                    go_simp
                    with_reducible rfl
                   rotate_left
                   ·simp only [Act.put, List.setIfInBounds_toArray, List.set_cons_zero, List.set_cons_succ, i64_w, i32_w]
                    rfl
                   refine take_ (i := 15) (N := some 82) (v := ?_) (a' := ?_) #[true, true, true, true, true, true, true, true, true, true, true, true, true, true, true, true, false, false] rfl rfl (take_ofW HT_.out HW_.out (by kernel_rfl)) (fun _ _ _ h => h) (Or.inl ⟨by rfl, ?_⟩) hHeld ?_ ?_
                   rotate_left
                   ·rintro w' ⟨s0, s1, s2⟩
                    go_simp
                    with_reducible rfl
                   rotate_left
                   ·simp only [Act.put, List.setIfInBounds_toArray, List.set_cons_zero, List.set_cons_succ, i64_w, i32_w]
                    rfl
                   refine pure_ (i := 16) (N := some 83) (v := ?_) (a' := ?_) #[true, true, true, true, true, true, true, true, true, true, true, true, true, true, true, true, true, false] rfl rfl (any_of HT_.out (by kernel_rfl)) (fun _ _ _ h => h) (Or.inl ⟨by rfl, ?_⟩) ?_ ?_
                   rotate_left
                   ·intro w'
                    go_simp
                    with_reducible rfl
                   rotate_left
                   ·simp only [Act.put, List.setIfInBounds_toArray, List.set_cons_zero, List.set_cons_succ, i64_w, i32_w]
                    rfl
                   refine last_ (i := 17) (N := none) #[true, true, true, true, true, true, true, true, true, true, true, true, true, true, true, true, true, true] rfl rfl (one_of HT_.out (by kernel_rfl)) (by decide) (fun K hK => ?_)
                   refine skip_ (w1 := ?_) (by rfl) rfl ?_ ?_
                   rotate_left
                   ·go_simp
                    rfl
                   refine hK.out _ _ ?_
                   clear hK K
                   refine done_ (done_of HT_.out (by kernel_rfl)) ?_
                   try go_wp2
                   go_roundg k3
                   case measure => have := HJ7.out; have := HK2.out; have := HK3.out; omega
                   case rel => exact ⟨(y142), (wrap64 (x14_3 + 1)), (by first | rfl | (simp; done) | (simp [*]; done)), H', ⟨by have := HJ7.out; have := HK2.out; have := HK3.out; omega⟩, ⟨by (with_reducible repeat (first | apply Kd.S_alloc | apply Kd.S_drewN | apply Kd.S_drew)); exact HQ33.out⟩, ⟨by repeat (first | (with_reducible first | exact HB.out | apply below_alloc | apply pw_below_drewN | apply below_drew1 | refine below_set ?_ GB30.out) | exact HB.out)⟩⟩
                  ·rw [if_neg c29] at H
                   exact absurd H (by simp)
                 ·rw [if_neg c28] at H
                  exact absurd H (by simp)
                ·rw [if_neg c26] at H
                 exact absurd H (by simp)
               ·rw [if_neg c25] at H
                exact absurd H (by simp)
              ·rw [if_neg c24] at H
               exact absurd H (by simp)
             ·rw [if_neg c23] at H
              exact absurd H (by simp)
            ·rw [if_neg c22] at H
             exact absurd H (by simp)
           ·rw [if_neg c21] at H
            exact absurd H (by simp)
          ·rw [if_neg c19] at H
           have c19b0 : decide (x14_3 < a4) = false := decide_eq_false c19
           clear c19
           have H' := Aside0.mk H
           clear H
           go_wp2
           go_roundg k3
           case measure => have := HJ7.out; have := HK2.out; have := HK3.out; omega
           case rel => exact ⟨(x12_3), (wrap64 (x13_2 + 1)), (by first | rfl | (simp; done) | (simp [*]; done)), H', ⟨by have := HJ7.out; have := HK2.out; have := HK3.out; omega⟩, ⟨by (with_reducible repeat (first | apply Kd.S_alloc | apply Kd.S_drewN | apply Kd.S_drew)); exact HO_12.out⟩, ⟨by repeat (first | (with_reducible first | exact HB.out | apply below_alloc | apply pw_below_drewN | apply below_drew1) | exact HB.out)⟩⟩
       ·rw [if_neg c18] at H
        have c18b0 : decide (x13_2 < a2) = false := decide_eq_false c18
        clear c18
        simp only [Option.some.injEq, Prod.mk.injEq] at H
        obtain ⟨rfl, rfl⟩ := H
        go_wp2
        go_ret2
        exact ⟨_, by first | rfl | (simp [errW_none, errW_some] <;> rfl) | (simp [*, errW_none, errW_some] <;> rfl), by (with_reducible repeat (first | apply Kd.S_alloc | apply Kd.S_drewN | apply Kd.S_drew)); exact HO_12.out, by repeat (first | (with_reducible first | exact HB.out | apply below_alloc | apply pw_below_drewN | apply below_drew1) | exact HB.out)⟩
 ·rw [if_neg c7] at H
  have c7b0 : (t132 == 0) = false := beq_eq_false_iff_ne.mpr c7
  have c7b1 : (t132 != 0) = true := bne_iff_ne.mpr c7
  simp only [Option.some.injEq, Prod.mk.injEq] at H
  obtain ⟨rfl, rfl⟩ := H
  go_enter Try.func61, Try.ntmps61
  go_wp2_with (first | ((with_reducible refine gate_callee (f := 55) rfl ?_); refine goesL_ (some 16) rfl rfl Try.func55 (by kernel_rfl) rfl #[.slice A0 l0.length c0] rfl (by (try simp only [List.map_toArray, List.map_cons, List.map_nil]); first | done | rfl | (simp only [tb_wrap8]; done) | (simp only [tb_wrap8]; rfl) | (simp only [List.length_drop, List.length_take]; rfl)) ?_; (with_reducible refine (culletref10_Check.calls k _ _ l0 t132 _ ?side1 ?side2 A6.out).mono ?_); (case side1 => repeat (first | exact HR0.out | (with_reducible refine Kd.C_alloc ?_ _) | (with_reducible refine Kd.C_drewN ?_ _) | (with_reducible refine Kd.C_drew ?_))); (case side2 => exact HC0.out); rintro e w' ⟨rfl, ⟨nd, rfl⟩⟩; refine ⟨_, rfl, ?_⟩))
  go_ret2
  exact ⟨_, by first | rfl | (simp [errW_none, errW_some] <;> rfl) | (simp [*, errW_none, errW_some] <;> rfl), by first | exact Kd.S_nil _ _ _ _ _ | exact Kd.N_nil _ _ _ _ _ | exact Kd.V_nil _ _ _ _ _ | exact Kd.Q_nil _ _ _ _ _ | exact Kd.R_nil _ _ _ _ _, by repeat (first | (with_reducible first | exact HB.out | apply below_alloc | apply pw_below_drewN | apply below_drew1) | exact HB.out)⟩

end Go.Proofs.Ytidogckochpbgaa.E
