-- Printed for this claim by mp.py, a program of its prover, through the kit's print. Lean checks it.
import Derived.Test.YtidogckochpbgaaQx0
import Derived.Test.YtidogckochpbgaaQx1
import Derived.Test.YtidogckochpbgaaQx3
import Derived.Test.YtidogckochpbgaaQx4
namespace Go.Proofs.Ytidogckochpbgaa.Q
open Go.RowKit Go.Proofs.YtidogckochpbgaaW.PrintWords Go.Proofs.YtidogckochpbgaaW.PrintLast Go.Proofs.YtidogckochpbgaaW.PrintMore
attribute [local go_sem] max2_int min2_int max_two min_two max_three min_three max_four min_four   -- for this text's walks alone
set_option linter.unusedVariables false
set_option linter.unusedSimpArgs false

-- NOT PRINTED: function 50 (culletlaw10_makes)

/-! ### matrix_Transpose: function 21 -/
mutual
def matrix_Transpose.j0 : Nat → List (List Int) → Bool → Option ((List (List Int)) × Int)
  | 0, _, _ => none
  | k + 1, x0, x18 => if x18 = true then (some (([] : List (List Int)), 100)) else (if 0 < (x0.length : Int) then ((matrix_blank.f k ((rd_L1 x0 0).length : Int) (x0.length : Int)).bind fun t260 => (matrix_Transpose.l0 k t260 x0 (x0.length : Int) 0)) else (none))
def matrix_Transpose.l0 : Nat → List (List Int) → List (List Int) → Int → Int → Option ((List (List Int)) × Int)
  | 0, _, _, _, _ => none
  | k + 1, x4, x26, x27, x28 => if x28 < x27 then (if 0 ≤ x28 then (if x28 < (x26.length : Int) then (matrix_Transpose.l1 k x4 x28 x26 x27 x28 (rd_L1 x26 x28) ((rd_L1 x26 x28).length : Int) 0) else (none)) else (none)) else (some (x4, 0))
def matrix_Transpose.l1 : Nat → List (List Int) → Int → List (List Int) → Int → Int → List Int → Int → Int → Option ((List (List Int)) × Int)
  | 0, _, _, _, _, _, _, _, _ => none
  | k + 1, x4, x5, x26, x27, x28, x33, x34, x35 => if x35 < x34 then (if 0 ≤ x35 then (if x35 < (x33.length : Int) then (if x35 < (x4.length : Int) then (if 0 ≤ x5 then (if x5 < ((rd_L1 x4 x35).length : Int) then (matrix_Transpose.l1 k (x4.set (x35 : Int).toNat ((rd_L1 x4 x35).set (x5 : Int).toNat (rd x33 x35))) x5 x26 x27 x28 x33 x34 (wrap64 (x35 + 1))) else (none)) else (none)) else (none)) else (none)) else (none)) else (matrix_Transpose.l0 k x4 x26 x27 (wrap64 (x28 + 1)))
end
def matrix_Transpose.f (k : Nat) (l0 : List (List Int)) : Option ((List (List Int)) × Int) := (matrix_Check.f k l0).bind fun t257 => (if t257 = 0 then (if 0 < (l0.length : Int) then (matrix_Transpose.j0 k l0 (decide (((rd_L1 l0 0).length : Int) > 256))) else (none)) else (matrix_Transpose.j0 k l0 true))
theorem matrix_Transpose.mono_l : ∀ k, (∀ y0 y1, LeO (matrix_Transpose.j0 k y0 y1) (matrix_Transpose.j0 (k + 1) y0 y1)) ∧ (∀ y0 y1 y2 y3, LeO (matrix_Transpose.l0 k y0 y1 y2 y3) (matrix_Transpose.l0 (k + 1) y0 y1 y2 y3)) ∧ (∀ y0 y1 y2 y3 y4 y5 y6 y7, LeO (matrix_Transpose.l1 k y0 y1 y2 y3 y4 y5 y6 y7) (matrix_Transpose.l1 (k + 1) y0 y1 y2 y3 y4 y5 y6 y7))
  | 0 => ⟨fun _ _ r h => by simp [matrix_Transpose.j0] at h, fun _ _ _ _ r h => by simp [matrix_Transpose.l0] at h, fun _ _ _ _ _ _ _ _ r h => by simp [matrix_Transpose.l1] at h⟩
  | k + 1 => by
    obtain ⟨ih0, ih1, ih2⟩ := matrix_Transpose.mono_l k
    refine ⟨?_, ?_, ?_⟩
    · intro y0 y1
      unfold matrix_Transpose.j0
      repeat' first
      | (with_reducible exact ih0 _ _)
      | (with_reducible exact ih1 _ _ _ _)
      | (with_reducible exact ih2 _ _ _ _ _ _ _ _)
      | (with_reducible exact matrix_Check.mono _ _)
      | (with_reducible exact matrix_blank.mono _ _ _)
      | (with_reducible exact LeO.refl _)
      | (with_reducible exact LeO.none _)
      | (with_reducible refine LeO.ite ?_ ?_)
      | (with_reducible refine LeO.bind ?_ (fun _ => ?_))
      | exact ih0 _ _
      | exact ih1 _ _ _ _
      | exact ih2 _ _ _ _ _ _ _ _
      | exact matrix_Check.mono _ _
      | exact matrix_blank.mono _ _ _
      | exact LeO.none _
      | refine LeO.ite ?_ ?_
      | refine LeO.bind ?_ (fun _ => ?_)
    · intro y0 y1 y2 y3
      unfold matrix_Transpose.l0
      repeat' first
      | (with_reducible exact ih0 _ _)
      | (with_reducible exact ih1 _ _ _ _)
      | (with_reducible exact ih2 _ _ _ _ _ _ _ _)
      | (with_reducible exact matrix_Check.mono _ _)
      | (with_reducible exact matrix_blank.mono _ _ _)
      | (with_reducible exact LeO.refl _)
      | (with_reducible exact LeO.none _)
      | (with_reducible refine LeO.ite ?_ ?_)
      | (with_reducible refine LeO.bind ?_ (fun _ => ?_))
      | exact ih0 _ _
      | exact ih1 _ _ _ _
      | exact ih2 _ _ _ _ _ _ _ _
      | exact matrix_Check.mono _ _
      | exact matrix_blank.mono _ _ _
      | exact LeO.none _
      | refine LeO.ite ?_ ?_
      | refine LeO.bind ?_ (fun _ => ?_)
    · intro y0 y1 y2 y3 y4 y5 y6 y7
      unfold matrix_Transpose.l1
      repeat' first
      | (with_reducible exact ih0 _ _)
      | (with_reducible exact ih1 _ _ _ _)
      | (with_reducible exact ih2 _ _ _ _ _ _ _ _)
      | (with_reducible exact matrix_Check.mono _ _)
      | (with_reducible exact matrix_blank.mono _ _ _)
      | (with_reducible exact LeO.refl _)
      | (with_reducible exact LeO.none _)
      | (with_reducible refine LeO.ite ?_ ?_)
      | (with_reducible refine LeO.bind ?_ (fun _ => ?_))
      | exact ih0 _ _
      | exact ih1 _ _ _ _
      | exact ih2 _ _ _ _ _ _ _ _
      | exact matrix_Check.mono _ _
      | exact matrix_blank.mono _ _ _
      | exact LeO.none _
      | refine LeO.ite ?_ ?_
      | refine LeO.bind ?_ (fun _ => ?_)
theorem matrix_Transpose.mono : ∀ a0 k, LeO (matrix_Transpose.f k a0) (matrix_Transpose.f (k + 1) a0) := by
  intro a0 k
  obtain ⟨ih0, ih1, ih2⟩ := matrix_Transpose.mono_l k
  unfold matrix_Transpose.f
  repeat' first
      | (with_reducible exact ih0 _ _)
      | (with_reducible exact ih1 _ _ _ _)
      | (with_reducible exact ih2 _ _ _ _ _ _ _ _)
      | (with_reducible exact matrix_Check.mono _ _)
      | (with_reducible exact matrix_blank.mono _ _ _)
      | (with_reducible exact LeO.refl _)
      | (with_reducible exact LeO.none _)
      | (with_reducible refine LeO.ite ?_ ?_)
      | (with_reducible refine LeO.bind ?_ (fun _ => ?_))
      | exact ih0 _ _
      | exact ih1 _ _ _ _
      | exact ih2 _ _ _ _ _ _ _ _
      | exact matrix_Check.mono _ _
      | exact matrix_blank.mono _ _ _
      | exact LeO.none _
      | refine LeO.ite ?_ ?_
      | refine LeO.bind ?_ (fun _ => ?_)
set_option maxHeartbeats 8000000 in
set_option maxRecDepth 100000 in
theorem matrix_Transpose.calls (k : Nat) (A0 : Option Addr) (c0 : Nat) (l0 : List (List Int)) (r1 : List (List Int)) (r2 : Int) (w : World) (hr0 : Kd.C (Kd.slice 5 (Kd.int .u8)) w A0 l0.length l0) (hc0 : l0.length ≤ c0) (h : matrix_Transpose.f k l0 = some (r1, r2)) :
    Calls Try.prog 21 #[.slice A0 l0.length c0] w fun e w' => ∃ v0_ : Value, e = .returned (.tuple #[v0_, .int .i64 r2]) ∧ Kd.S (Kd.slice 5 (Kd.int .u8)) 31 w' w.heap.size (fun _ => True) v0_ r1 ∧ Below w.heap.size w w' := by
  have HR0 := Aside0.mk hr0
  have HC0 := Aside0.mk hc0
  clear hr0 hc0
  have HB := Aside0.mk (Below.refl w.heap.size w)
  have H : ((matrix_Check.f k l0).bind fun t257 => (if t257 = 0 then (if 0 < (l0.length : Int) then (matrix_Transpose.j0 k l0 (decide (((rd_L1 l0 0).length : Int) > 256))) else (none)) else (matrix_Transpose.j0 k l0 true))) = some (r1, r2) := h
  clear h
  have HC2 := Aside0.mk H
  clear H
  go_enter Try.func21, Try.ntmps21
  go_upto_region 1 with (fail)
  go_cut [18] (fun v18 wc => ∃ (kq : Nat) (x18_1 : Bool), v18 = .bool x18_1 ∧ Aside0 (matrix_Transpose.j0 kq l0 x18_1 = some (r1, r2)) ∧ Aside0 (kq ≤ k) ∧ Aside0 (Below w.heap.size w wc))
  case first =>
    have H := HC2.out
    clear HC2
    replace H := Option.bind_eq_some_iff.mp H
    obtain ⟨t257, A30, H⟩ := H
    replace H : (if t257 = 0 then (if 0 < (l0.length : Int) then (matrix_Transpose.j0 k l0 (decide (((rd_L1 l0 0).length : Int) > 256))) else (none)) else (matrix_Transpose.j0 k l0 true)) = some (r1, r2) := H
    have A3 := Aside0.mk A30
    clear A30
    by_cases c4 : t257 = 0
    · rw [if_pos c4] at H
      have c4b0 : (t257 == 0) = true := beq_iff_eq.mpr c4
      have c4b1 : (t257 != 0) = false := bne_eq_false_iff_eq.mpr c4
      clear c4
      (first | rw [c4b0] | (simp only [i64_w, i32_w]; rw [c4b0]) | skip)
      by_cases c5 : 0 < (l0.length : Int)
      · rw [if_pos c5] at H
        have c5b0 : decide (0 < (l0.length : Int)) = true := decide_eq_true c5
        have c5b1 : decide (0 < l0.length) = true := decide_eq_true (by omega)
        clear c5
        have H' := Aside0.mk H
        clear H
        go_wp2_with (first | ((with_reducible refine gate_callee (f := 14) rfl ?_); refine goesL_ (some 10) rfl rfl Try.func14 (by kernel_rfl) rfl #[.slice A0 l0.length c0] rfl (by (try simp only [List.map_toArray, List.map_cons, List.map_nil]); first | done | rfl | (simp only [tb_wrap8]; done) | (simp only [tb_wrap8]; rfl) | (simp only [List.length_drop, List.length_take]; rfl)) ?_; (with_reducible refine (matrix_Check.calls k _ _ l0 t257 _ ?side1 ?side2 A3.out).mono ?_); (case side1 => repeat (first | exact (Kd.C_below HR0.out HB.out) | (with_reducible refine Kd.C_alloc ?_ _) | (with_reducible refine Kd.C_drewN ?_ _) | (with_reducible refine Kd.C_drew ?_))); (case side2 => exact HC0.out); rintro e w' ⟨rfl, ⟨nd, rfl⟩⟩; refine ⟨_, rfl, ?_⟩; have p258 : 0 ≤ (0 : Int) := (by omega); have q258 : 0 < (l0.length : Int) := of_decide_eq_true (by first | (with_reducible assumption) | assumption); obtain ⟨ad258, A258_0, c258_0, e258, hx258_0, hl258_0, hi258_0⟩ := at_L1 HR0.out 0 p258 q258; cases e258; have qi258 : (0 < l0.length) = True := eq_true (by omega); (try rw [show ((0 : Int)).toNat = 0 from rfl] at hx258_0); (try rw [Addr.add_zero'] at hx258_0); replace hx258_0 := (HB.out.cell (World.block_lt_of_cell? w _ hx258_0)).trans hx258_0; have HR258_0 := Aside0.mk hi258_0; have HC258_0 := Aside0.mk hl258_0; clear hi258_0 hl258_0; replace p258 := eq_true p258; replace q258 := eq_true q258))
        go_meet
        case rel => exact ⟨_, (decide (((rd_L1 l0 0).length : Int) > 256)), (by first | rfl | (simp; done) | (simp [*]; done)), H', ⟨by first | omega | exact Nat.le_refl _⟩, ⟨by repeat (first | (with_reducible first | exact HB.out | apply below_alloc | apply pw_below_drewN | apply below_drew1) | exact HB.out)⟩⟩
      · rw [if_neg c5] at H
        exact absurd H (by simp)
    · rw [if_neg c4] at H
      have c4b0 : (t257 == 0) = false := beq_eq_false_iff_ne.mpr c4
      have c4b1 : (t257 != 0) = true := bne_iff_ne.mpr c4
      (first | rw [c4b0] | (simp only [i64_w, i32_w]; rw [c4b0]) | skip)
      have H' := Aside0.mk H
      clear H
      go_wp2_with (first | ((with_reducible refine gate_callee (f := 14) rfl ?_); refine goesL_ (some 10) rfl rfl Try.func14 (by kernel_rfl) rfl #[.slice A0 l0.length c0] rfl (by (try simp only [List.map_toArray, List.map_cons, List.map_nil]); first | done | rfl | (simp only [tb_wrap8]; done) | (simp only [tb_wrap8]; rfl) | (simp only [List.length_drop, List.length_take]; rfl)) ?_; (with_reducible refine (matrix_Check.calls k _ _ l0 t257 _ ?side1 ?side2 A3.out).mono ?_); (case side1 => repeat (first | exact (Kd.C_below HR0.out HB.out) | (with_reducible refine Kd.C_alloc ?_ _) | (with_reducible refine Kd.C_drewN ?_ _) | (with_reducible refine Kd.C_drew ?_))); (case side2 => exact HC0.out); rintro e w' ⟨rfl, ⟨nd, rfl⟩⟩; refine ⟨_, rfl, ?_⟩))
      go_meet
      case rel => exact ⟨_, (true), (by first | rfl | (simp; done) | (simp [*]; done)), H', ⟨by first | omega | exact Nat.le_refl _⟩, ⟨by repeat (first | (with_reducible first | exact HB.out | apply below_alloc | apply pw_below_drewN | apply below_drew1) | exact HB.out)⟩⟩
  case rest =>
    clear HC2
    try clear c1
    try clear c2
    try clear p2
    try clear q2
    try clear hx2
    try clear qi2
    try clear c4
    try clear c4b0
    try clear c4b1
    try clear c5
    try clear c5b0
    try clear c5b1
    try clear hx258_0
    try clear p258
    try clear q258
    obtain ⟨kq, x18_1, rfl, HA, HJ1, HB⟩ := hcut
    cases kq with
    | zero => exact absurd HA.out (by simp [matrix_Transpose.j0])
    | succ kj1 =>
      have H := HA.out
      clear HA
      simp only [matrix_Transpose.j0] at H
      by_cases c6 : x18_1 = true
      · subst c6
        have H1 : (some (([] : List (List Int)), 100)) = some (r1, r2) := by rw [if_pos rfl] at H; exact H
        clear H
        have H := H1
        clear H1
        simp only [Option.some.injEq, Prod.mk.injEq] at H
        obtain ⟨rfl, rfl⟩ := H
        go_wp2
        go_ret2
        exact ⟨_, by first | rfl | (simp [errW_none, errW_some] <;> rfl) | (simp [*, errW_none, errW_some] <;> rfl), by first | exact Kd.S_nil _ _ _ _ _ | exact Kd.N_nil _ _ _ _ _ | exact Kd.V_nil _ _ _ _ _ | exact Kd.Q_nil _ _ _ _ _ | exact Kd.R_nil _ _ _ _ _, by repeat (first | (with_reducible first | exact HB.out | apply below_alloc | apply pw_below_drewN | apply below_drew1) | exact HB.out)⟩
      · replace c6 := Bool.eq_false_iff.mpr c6
        subst c6
        have H1 : (if 0 < (l0.length : Int) then ((matrix_blank.f kj1 ((rd_L1 l0 0).length : Int) (l0.length : Int)).bind fun t260 => (matrix_Transpose.l0 kj1 t260 l0 (l0.length : Int) 0)) else (none)) = some (r1, r2) := by rw [if_neg (show ¬ (false = true) by decide)] at H; exact H
        clear H
        have H := H1
        clear H1
        by_cases c7 : 0 < (l0.length : Int)
        · rw [if_pos c7] at H
          have c7b0 : decide (0 < (l0.length : Int)) = true := decide_eq_true c7
          have c7b1 : decide (0 < l0.length) = true := decide_eq_true (by omega)
          clear c7
          replace H := Option.bind_eq_some_iff.mp H
          obtain ⟨t260, A80, H⟩ := H
          replace H : (matrix_Transpose.l0 kj1 t260 l0 (l0.length : Int) 0) = some (r1, r2) := H
          have A8 := Aside0.mk A80
          clear A80
          have H' := Aside0.mk H
          clear H
          have p259 : 0 ≤ (0 : Int) := (by omega)
          have q259 : 0 < (l0.length : Int) := of_decide_eq_true (by first | (with_reducible assumption) | assumption)
          obtain ⟨ad259, A259_0, c259_0, e259, hx259_0, hl259_0, hi259_0⟩ := at_L1 HR0.out 0 p259 q259
          cases e259
          have qi259 : (0 < l0.length) = True := eq_true (by omega)
          (try rw [show ((0 : Int)).toNat = 0 from rfl] at hx259_0)
          (try rw [Addr.add_zero'] at hx259_0)
          replace hx259_0 := (HB.out.cell (World.block_lt_of_cell? w _ hx259_0)).trans hx259_0
          have HR259_0 := Aside0.mk hi259_0
          have HC259_0 := Aside0.mk hl259_0
          clear hi259_0 hl259_0
          replace p259 := eq_true p259
          replace q259 := eq_true q259
          go_wp2_with (first | ((with_reducible refine gate_callee (f := 43) rfl ?_); refine goesL_ (some 25) rfl rfl Try.func43 (by kernel_rfl) rfl #[.int .i64 ((rd_L1 l0 0).length : Int), .int .i64 (l0.length : Int)] rfl (by (try simp only [List.map_toArray, List.map_cons, List.map_nil]); first | done | rfl | (simp only [tb_wrap8]; done) | (simp only [tb_wrap8]; rfl) | (simp only [List.length_drop, List.length_take]; rfl)) ?_; (with_reducible refine (matrix_blank.calls kj1 ((rd_L1 l0 0).length : Int) (l0.length : Int) t260 _ A8.out).mono ?_); rintro e w9 ⟨v261, rfl, ho0, hb⟩; refine ⟨_, rfl, ?_⟩; have n0_ := Aside0.mk (Kd.S_lower ho0 (below_size (by repeat (first | (with_reducible first | exact HB.out | apply below_alloc | apply pw_below_drewN | apply below_drew1) | exact HB.out)))); have n1_ := Aside0.mk (below_step (by repeat (first | (with_reducible first | exact HB.out | apply below_alloc | apply pw_below_drewN | apply below_drew1) | exact HB.out)) hb); clear HB; have HO262 := n0_; have HB := n1_; clear n0_ n1_; (try clear hb); (try clear hb2); (try clear hk); (try clear hi); (try clear ho0)))
          go_loopg [28] kj1 (fun kq v28 w' => ∃ (x4_2 : List (List Int)) (x28_2 : Int), v28 = .int .i64 x28_2 ∧ Aside0 (matrix_Transpose.l0 kq x4_2 l0 (l0.length : Int) x28_2 = some (r1, r2)) ∧ Aside0 (kq ≤ kj1) ∧ Aside0 (Kd.S (Kd.slice 5 (Kd.int .u8)) 31 w' w.heap.size (fun _ => True) v261 x4_2) ∧ Aside0 (Below w.heap.size w w'))
          case atStart => exact ⟨(t260), (0), (by first | rfl | (simp; done) | (simp [*]; done)), H', ⟨Nat.le_refl _⟩, ⟨by (with_reducible repeat (first | apply Kd.S_alloc | apply Kd.S_drewN | apply Kd.S_drew)); exact HO262.out⟩, ⟨by repeat (first | (with_reducible first | exact HB.out | apply below_alloc | apply pw_below_drewN | apply below_drew1) | exact HB.out)⟩⟩
          case round =>
            clear H'
            try clear c1
            try clear c2
            try clear p2
            try clear q2
            try clear hx2
            try clear qi2
            try clear c4
            try clear c4b0
            try clear c4b1
            try clear c5
            try clear c5b0
            try clear c5b1
            try clear c6
            try clear c7
            try clear c7b0
            try clear c7b1
            try clear p8
            try clear hx258_0
            try clear hx259_0
            try clear p2
            try clear p258
            try clear p259
            try clear q2
            try clear q258
            try clear q259
            obtain ⟨x4_2, x28_2, rfl, HA, HK2, HO_4, HB⟩ := hrel
            cases gk with
            | zero => exact absurd HA.out (by simp [matrix_Transpose.l0])
            | succ k2 =>
              have H := HA.out
              clear HA
              simp only [matrix_Transpose.l0] at H
              by_cases c10 : x28_2 < (l0.length : Int)
              · rw [if_pos c10] at H
                have c10b0 : decide (x28_2 < (l0.length : Int)) = true := decide_eq_true c10
                clear c10
                by_cases c11 : 0 ≤ x28_2
                · rw [if_pos c11] at H
                  have c11b0 : decide (0 ≤ x28_2) = true := decide_eq_true c11
                  clear c11
                  by_cases c12 : x28_2 < (l0.length : Int)
                  · rw [if_pos c12] at H
                    have c12b0 : decide (x28_2 < (l0.length : Int)) = true := decide_eq_true c12
                    clear c12
                    have H' := Aside0.mk H
                    clear H
                    have p263 : 0 ≤ (x28_2 : Int) := of_decide_eq_true (by first | (with_reducible assumption) | assumption)
                    have q263 : x28_2 < (l0.length : Int) := of_decide_eq_true (by first | (with_reducible assumption) | assumption)
                    obtain ⟨ad263, A263_0, c263_0, e263, hx263_0, hl263_0, hi263_0⟩ := at_L1 HR0.out x28_2 p263 q263
                    obtain rfl : ad259 = ad263 := (by injection e263)
                    replace hx263_0 := (HB.out.cell (World.block_lt_of_cell? w _ hx263_0)).trans hx263_0
                    have HR263_0 := Aside0.mk hi263_0
                    have HC263_0 := Aside0.mk hl263_0
                    clear hi263_0 hl263_0
                    replace p263 := eq_true p263
                    replace q263 := eq_true q263
                    go_wp2
                    go_loopg [35] k2 (fun kq v35 w' => ∃ (x4_3 : List (List Int)) (x35_3 : Int), v35 = .int .i64 x35_3 ∧ Aside0 (matrix_Transpose.l1 kq x4_3 x28_2 l0 (l0.length : Int) x28_2 (rd_L1 l0 x28_2) ((rd_L1 l0 x28_2).length : Int) x35_3 = some (r1, r2)) ∧ Aside0 (kq ≤ k2) ∧ Aside0 (Kd.S (Kd.slice 5 (Kd.int .u8)) 31 w' w.heap.size (fun _ => True) v261 x4_3) ∧ Aside0 (Below w.heap.size w w'))
                    case atStart => exact ⟨(x4_2), (0), (by first | rfl | (simp; done) | (simp [*]; done)), H', ⟨Nat.le_refl _⟩, ⟨by (with_reducible repeat (first | apply Kd.S_alloc | apply Kd.S_drewN | apply Kd.S_drew)); exact HO_4.out⟩, ⟨by repeat (first | (with_reducible first | exact HB.out | apply below_alloc | apply pw_below_drewN | apply below_drew1) | exact HB.out)⟩⟩
                    case round =>
                      clear H'
                      try clear c1
                      try clear c2
                      try clear p2
                      try clear q2
                      try clear hx2
                      try clear qi2
                      try clear c4
                      try clear c4b0
                      try clear c4b1
                      try clear c5
                      try clear c5b0
                      try clear c5b1
                      try clear c6
                      try clear c7
                      try clear c7b0
                      try clear c7b1
                      try clear p8
                      try clear c10
                      try clear c10b0
                      try clear c11
                      try clear c11b0
                      try clear c12
                      try clear c12b0
                      try clear hx258_0
                      try clear hx259_0
                      try clear hx263_0
                      try clear p2
                      try clear p258
                      try clear p259
                      try clear p263
                      try clear p8
                      try clear q2
                      try clear q258
                      try clear q259
                      try clear q263
                      obtain ⟨x4_3, x35_3, rfl, HA, HK3, HO_4, HB⟩ := hrel
                      cases gk with
                      | zero => exact absurd HA.out (by simp [matrix_Transpose.l1])
                      | succ k3 =>
                        have H := HA.out
                        clear HA
                        simp only [matrix_Transpose.l1] at H
                        by_cases c13 : x35_3 < ((rd_L1 l0 x28_2).length : Int)
                        · rw [if_pos c13] at H
                          have c13b0 : decide (x35_3 < ((rd_L1 l0 x28_2).length : Int)) = true := decide_eq_true c13
                          clear c13
                          by_cases c14 : 0 ≤ x35_3
                          · rw [if_pos c14] at H
                            have c14b0 : decide (0 ≤ x35_3) = true := decide_eq_true c14
                            clear c14
                            by_cases c15 : x35_3 < ((rd_L1 l0 x28_2).length : Int)
                            · rw [if_pos c15] at H
                              have c15b0 : decide (x35_3 < ((rd_L1 l0 x28_2).length : Int)) = true := decide_eq_true c15
                              clear c15
                              by_cases c16 : x35_3 < (x4_3.length : Int)
                              · rw [if_pos c16] at H
                                have c16b0 : decide (x35_3 < (x4_3.length : Int)) = true := decide_eq_true c16
                                clear c16
                                by_cases c17 : 0 ≤ x28_2
                                · rw [if_pos c17] at H
                                  have c17b0 : decide (0 ≤ x28_2) = true := decide_eq_true c17
                                  clear c17
                                  by_cases c18 : x28_2 < ((rd_L1 x4_3 x35_3).length : Int)
                                  · rw [if_pos c18] at H
                                    have c18b0 : decide (x28_2 < ((rd_L1 x4_3 x35_3).length : Int)) = true := decide_eq_true c18
                                    clear c18
                                    obtain ⟨y266, hy266⟩ : ∃ y_ : List Int, y_ = ((rd_L1 x4_3 x35_3).set (x28_2 : Int).toNat (rd (rd_L1 l0 x28_2) x35_3)) := ⟨_, rfl⟩
                                    replace H : (matrix_Transpose.l1 k3 (x4_3.set (x35_3 : Int).toNat y266) x28_2 l0 (l0.length : Int) x28_2 (rd_L1 l0 x28_2) ((rd_L1 l0 x28_2).length : Int) (wrap64 (x35_3 + 1))) = some (r1, r2) := by first | (rw [hy266]; with_reducible exact H) | (have H2_ := (Option.bind_some _ _).symm.trans H; rw [hy266]; with_reducible exact H2_) | (have H2_ := (Option.bind_some _ _).symm.trans H; with_reducible exact H2_) | with_reducible exact H | (rw [hy266]; exact H) | exact H
                                    have Ny266 := Aside0.mk hy266
                                    clear hy266
                                    obtain ⟨y268, hy268⟩ : ∃ y_ : List (List Int), y_ = (x4_3.set (x35_3 : Int).toNat y266) := ⟨_, rfl⟩
                                    replace H : (matrix_Transpose.l1 k3 y268 x28_2 l0 (l0.length : Int) x28_2 (rd_L1 l0 x28_2) ((rd_L1 l0 x28_2).length : Int) (wrap64 (x35_3 + 1))) = some (r1, r2) := by first | (rw [hy268]; with_reducible exact H) | (have H2_ := (Option.bind_some _ _).symm.trans H; rw [hy268]; with_reducible exact H2_) | (have H2_ := (Option.bind_some _ _).symm.trans H; with_reducible exact H2_) | with_reducible exact H | (rw [hy268]; exact H) | exact H
                                    have Ny268 := Aside0.mk hy268
                                    clear hy268
                                    have H' := Aside0.mk H
                                    clear H
                                    have p264 : 0 ≤ (x35_3 : Int) := of_decide_eq_true (by first | (with_reducible assumption) | assumption)
                                    have q264 : x35_3 < ((rd_L1 l0 x28_2).length : Int) := of_decide_eq_true (by first | (with_reducible assumption) | assumption)
                                    obtain ⟨ad264, e264, hx264_0⟩ := Kd.at_int HR263_0.out x35_3 p264 q264
                                    cases e264
                                    replace hx264_0 := (HB.out.cell (World.block_lt_of_cell? w _ hx264_0)).trans hx264_0
                                    replace p264 := eq_true p264
                                    replace q264 := eq_true q264
                                    obtain ⟨Ao20, co20, eo20⟩ := Kd.S_slice HO_4.out
                                    subst eo20
                                    have p265 : 0 ≤ (x35_3 : Int) := of_decide_eq_true (by first | (with_reducible assumption) | assumption)
                                    have q265 : x35_3 < (x4_3.length : Int) := of_decide_eq_true (by first | (with_reducible assumption) | assumption)
                                    obtain ⟨ad265, A265_0, c265_0, e265, hx265_0, hl265_0, hi265_0⟩ := at_L1 (Kd.S_reads' HO_4.out).2.2 x35_3 p265 q265
                                    cases e265
                                    obtain ⟨ce265, hce265, hMe265, hcc265⟩ := Kd.S_get HO_4.out [] x35_3 p265 (by first | exact q265 | exact of_decide_eq_true (by first | (with_reducible assumption) | assumption) | (have e_ := (Kd.S_reads' HO_4.out).1; omega))
                                    obtain ⟨ve265_0, rfl, ge265_0⟩ := hMe265
                                    have hv265_0 := hcc265 0 _ rfl
                                    rw [Nat.add_zero, show ((Kd.slice 5 (Kd.int .u8))).sz = 1 from rfl, Nat.mul_one] at hv265_0
                                    replace hv265_0 := Option.some.inj (hv265_0.symm.trans hx265_0)
                                    rw [hv265_0] at ge265_0
                                    have HL265_0 := Aside0.mk (show Kd.R (Kd.int .u8) 5 _ _ _ _ (rd_L1 x4_3 x35_3) from ge265_0)
                                    clear hv265_0 ge265_0
                                    have HX265_0 := Aside0.mk hx265_0
                                    clear hcc265 hce265
                                    have HR265_0 := Aside0.mk hi265_0
                                    have HC265_0 := Aside0.mk hl265_0
                                    clear hi265_0 hl265_0
                                    replace p265 := eq_true p265
                                    replace q265 := eq_true q265
                                    have p19 : 0 ≤ (x28_2 : Int) := of_decide_eq_true (by first | (with_reducible assumption) | assumption)
                                    have q19 : (x28_2 : Int) < (((rd_L1 x4_3 x35_3).length : Int) : Int) := of_decide_eq_true (by first | (with_reducible assumption) | assumption)
                                    obtain ⟨go19, co19, eo19, gb19, gl19, cl19, HG19⟩ := Kd.R_form HL265_0.out (by omega)
                                    (first | cases eo19 | (injection eo19 with ea_ en_ ec_; (first | subst ea_ | (injection ea_ with ea_; subst ea_)); subst ec_; clear en_))
                                    have GB19 := Aside0.mk gb19
                                    have GG19 := Aside0.mk HG19
                                    clear gb19 gl19 HG19
                                    obtain ⟨hx19_0, hf19_0⟩ := Kd.R_celln 0 HL265_0.out (x28_2 : Int) p19 q19
                                    replace p19 := eq_true p19
                                    replace q19 := eq_true q19
                                    have hq21 : (x35_3 : Int) < (x4_3.length : Int) := (by have h_ : (x35_3 : Int) < ((x4_3.length : Int) : Int) := of_decide_eq_true (by first | (with_reducible assumption) | assumption); first | exact h_ | (have e_ := (Kd.S_reads' HO_4.out).1; omega) | simpa only [List.length_set, List.length_set] using h_)
                                    obtain ⟨oki21, ce21, hcl21, hM21, hcc21, hok21, hbk21⟩ := Kd.S_borrow HO_4.out [] (x35_3 : Int) (of_decide_eq_true (by first | (with_reducible assumption) | assumption)) hq21
                                    obtain ⟨ve21_0, rfl, ge21_0⟩ := hM21
                                    have hv21 := hcc21 0 _ rfl
                                    rw [Nat.add_zero, show ((Kd.slice 5 (Kd.int .u8))).sz = 1 from rfl, Nat.mul_one] at hv21
                                    replace hv21 := Option.some.inj (hv21.symm.trans HX265_0.out)
                                    subst hv21
                                    clear hcc21 hcl21
                                    replace ge21_0 := (show Kd.R (Kd.int .u8) 5 _ _ _ _ (rd_L1 x4_3 x35_3) from ge21_0)
                                    have HP21 := Kd.R_putg ge21_0 (x28_2 : Int) (rd (rd_L1 l0 x28_2) x35_3)
                                    go_wp2_with (first | ((with_reducible refine gate_store (t := 5) (p := 46) rfl ?_); refine store_event (t := 5) (p := 46) (v := ?vo_w22) (w1 := (wr.setCell ⟨go19, (x28_2 : Int).toNat, none⟩ (.int .u8 (rd (rd_L1 l0 x28_2) x35_3)))) ?hg ?ho ?hn ?hr ?_; (case ho => rfl); (case hg => rfl); (case hn => rfl); (case hr => first | (go_simp; done) | (go_simp; rfl)); intro w22 hw; have hg : wr.grownBy w22 (some go19) := (by rw [hw]; exact HP21.2); have hz_ : Kd.R (Kd.int .u8) 5 w22 w.heap.size oki21 (.slice (some ⟨go19, 0, none⟩) (rd_L1 x4_3 x35_3).length c265_0) y266 := (by rw [hw, Ny266.out]; exact HP21.1); have hp_ : Kd.S (Kd.slice 5 (Kd.int .u8)) 31 w22 w.heap.size (fun _ => True) (.slice (some ad265) x4_3.length co20) y268 := (by rw [Ny268.out]; exact hbk21 hg (fun k_ e_ => by injection e_ with e_; subst e_; exact ge21_0.1 _ rfl) (Kd.M_row hz_)); have hm_ := Kd.R_mono hz_ hok21; clear HP21 hbk21; have n0_ := Aside0.mk (hp_); have n1_ := Aside0.mk ((by rw [hw]; exact below_set (HB.out) GB19.out : Below w.heap.size w w22)); have n2_ := Aside0.mk (hm_); have n3_ := Aside0.mk ((Kd.R_reads' hm_).2.1); clear HO_4; clear HB; clear HL265_0; have HO_4 := n0_; have HB := n1_; have HL269 := n2_; have HC267 := n3_; clear n0_ n1_ n2_ n3_; clear hg hw hp_ hz_ hm_ hok21))
                                    go_roundg k3
                                    case measure => have := HJ1.out; have := HK2.out; have := HK3.out; omega
                                    case rel => exact ⟨(y268), (wrap64 (x35_3 + 1)), (by first | rfl | (simp; done) | (simp [*]; done)), H', ⟨by have := HJ1.out; have := HK2.out; have := HK3.out; omega⟩, ⟨by (with_reducible repeat (first | apply Kd.S_alloc | apply Kd.S_drewN | apply Kd.S_drew)); exact HO_4.out⟩, ⟨by repeat (first | (with_reducible first | exact HB.out | apply below_alloc | apply pw_below_drewN | apply below_drew1) | exact HB.out)⟩⟩
                                  · rw [if_neg c18] at H
                                    exact absurd H (by simp)
                                · rw [if_neg c17] at H
                                  exact absurd H (by simp)
                              · rw [if_neg c16] at H
                                exact absurd H (by simp)
                            · rw [if_neg c15] at H
                              exact absurd H (by simp)
                          · rw [if_neg c14] at H
                            exact absurd H (by simp)
                        · rw [if_neg c13] at H
                          have c13b0 : decide (x35_3 < ((rd_L1 l0 x28_2).length : Int)) = false := decide_eq_false c13
                          clear c13
                          have H' := Aside0.mk H
                          clear H
                          go_wp2
                          go_roundg k3
                          case measure => have := HJ1.out; have := HK2.out; have := HK3.out; omega
                          case rel => exact ⟨(x4_3), (wrap64 (x28_2 + 1)), (by first | rfl | (simp; done) | (simp [*]; done)), H', ⟨by have := HJ1.out; have := HK2.out; have := HK3.out; omega⟩, ⟨by (with_reducible repeat (first | apply Kd.S_alloc | apply Kd.S_drewN | apply Kd.S_drew)); exact HO_4.out⟩, ⟨by repeat (first | (with_reducible first | exact HB.out | apply below_alloc | apply pw_below_drewN | apply below_drew1) | exact HB.out)⟩⟩
                  · rw [if_neg c12] at H
                    exact absurd H (by simp)
                · rw [if_neg c11] at H
                  exact absurd H (by simp)
              · rw [if_neg c10] at H
                have c10b0 : decide (x28_2 < (l0.length : Int)) = false := decide_eq_false c10
                clear c10
                simp only [Option.some.injEq, Prod.mk.injEq] at H
                obtain ⟨rfl, rfl⟩ := H
                go_wp2
                go_ret2
                exact ⟨_, by first | rfl | (simp [errW_none, errW_some] <;> rfl) | (simp [*, errW_none, errW_some] <;> rfl), by (with_reducible repeat (first | apply Kd.S_alloc | apply Kd.S_drewN | apply Kd.S_drew)); exact HO_4.out, by repeat (first | (with_reducible first | exact HB.out | apply below_alloc | apply pw_below_drewN | apply below_drew1) | exact HB.out)⟩
        · rw [if_neg c7] at H
          exact absurd H (by simp)

/-! ### gf8_Tables_Mul: function 48 -/
def gf8_Tables_Mul.f (a0 a1 : Int) : Option Int := if 0 ≤ a0 ∧ a0 ≤ 255 ∧ 0 ≤ a1 ∧ a1 ≤ 255 then (if a0 = 0 then some 0 else if a1 = 0 then some 0 else (tab8.lg 255 a0.toNat).bind fun la => (tab8.lg 255 a1.toNat).bind fun lb => some ((tab8.pw ((la + lb) % 255) : Nat) : Int)) else none
set_option maxHeartbeats 4000000 in
set_option maxRecDepth 100000 in
theorem gf8_Tables_Mul.calls (g : Nat) (a0 a1 r : Int) (w : World) (hI : IsS76 w w g) (h : gf8_Tables_Mul.f a0 a1 = some r) : Calls Try.prog 48 #[.pointer (some ⟨g, 0, none⟩), .int .u8 a0, .int .u8 a1] w fun e w' => e = .returned (.int .u8 r) ∧ Drawn0 w w' := by
  unfold gf8_Tables_Mul.f at h
  by_cases hr : 0 ≤ a0 ∧ a0 ≤ 255 ∧ 0 ≤ a1 ∧ a1 ≤ 255
  · rw [if_pos hr] at h
    obtain ⟨a, rfl⟩ : ∃ a : Nat, a0 = (a : Int) := ⟨a0.toNat, by omega⟩
    obtain ⟨b, rfl⟩ : ∃ b : Nat, a1 = (b : Int) := ⟨a1.toNat, by omega⟩
    by_cases h0 : (a : Int) = 0
    · rw [if_pos h0] at h
      obtain rfl := Option.some.inj h
      have hz : ((a : Int) == 0) = true := beq_iff_eq.2 h0
      clear h0 h hr
      go_enter Try.func48, Try.ntmps48
      go_wp2
      go_ret
      exact ⟨rfl, Drawn0.refl _⟩
    · rw [if_neg h0] at h
      have hz : ((a : Int) == 0) = false := beq_eq_false_iff_ne.2 h0
      by_cases h1 : (b : Int) = 0
      · rw [if_pos h1] at h
        obtain rfl := Option.some.inj h
        have hz1 : ((b : Int) == 0) = true := beq_iff_eq.2 h1
        clear h0 h h1 hr
        go_enter Try.func48, Try.ntmps48
        go_wp2
        go_ret
        exact ⟨rfl, Drawn0.refl _⟩
      · rw [if_neg h1, Int.toNat_natCast, Int.toNat_natCast] at h
        have hz1 : ((b : Int) == 0) = false := beq_eq_false_iff_ne.2 h1
        obtain ⟨la, hla, h⟩ := Option.bind_eq_some_iff.1 h
        obtain ⟨lb, hlb, h⟩ := Option.bind_eq_some_iff.1 h
        obtain rfl := Option.some.inj h
        have l1 := tab8.lg_lt _ _ _ hla
        have l2 := tab8.lg_lt _ _ _ hlb
        have c1 := hI.log hla
        have c2 := hI.log hlb
        have c3 := hI.exp (j := la + lb) (by omega)
        have ha : a < 256 := by omega
        have hb : b < 256 := by omega
        generalize tab8.pw ((la + lb) % 255) = p at c3 ⊢
        clear hI hla hlb h h0 h1 hr
        go_enter Try.func48, Try.ntmps48
        go_wp2
        go_quiet (fail)
        go_wp2
        go_ret
        exact ⟨rfl, ⟨_, rfl⟩⟩
  · rw [if_neg hr] at h; cases h

end Go.Proofs.Ytidogckochpbgaa.Q
