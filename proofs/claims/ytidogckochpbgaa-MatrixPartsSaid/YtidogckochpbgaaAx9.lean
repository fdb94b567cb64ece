import Derived.Test.YtidogckochpbgaaAx0
import Derived.Test.YtidogckochpbgaaAx2
-- Printed for this claim by mp.py, a program of its prover, through the kit's print. Lean checks it.
namespace Go.Proofs.Ytidogckochpbgaa.A
open Go.RowKit Go.Proofs.YtidogckochpbgaaW.PrintWords Go.Proofs.YtidogckochpbgaaW.PrintLast Go.Proofs.YtidogckochpbgaaW.PrintMore
attribute [local go_sem] max2_int min2_int max_two min_two max_three min_three max_four min_four   -- for this text's walks alone
set_option linter.unusedVariables false
set_option linter.unusedSimpArgs false

/-! ### matrix_Transpose: function 21 -/
mutual
def matrix_Transpose.j0 : Nat → List (List Int) → Bool → Option ((List (List Int)) × Int)
 | 0, _, _ => none
 | k + 1, x0, x18 => if x18 = true then (some (([] : List (List Int)), 100)) else (if 0 < (x0.length : Int) then ((matrix_blank.f k ((rd_L1 x0 0).length : Int) (x0.length : Int)).bind fun t184 => (matrix_Transpose.l0 k t184 x0 (x0.length : Int) 0)) else (none))
def matrix_Transpose.l0 : Nat → List (List Int) → List (List Int) → Int → Int → Option ((List (List Int)) × Int)
 | 0, _, _, _, _ => none
 | k + 1, x4, x26, x27, x28 => if x28 < x27 then (if 0 ≤ x28 then (if x28 < (x26.length : Int) then (matrix_Transpose.l1 k x4 x28 x26 x27 x28 (rd_L1 x26 x28) ((rd_L1 x26 x28).length : Int) 0) else (none)) else (none)) else (some (x4, 0))
def matrix_Transpose.l1 : Nat → List (List Int) → Int → List (List Int) → Int → Int → List Int → Int → Int → Option ((List (List Int)) × Int)
 | 0, _, _, _, _, _, _, _, _ => none
 | k + 1, x4, x5, x26, x27, x28, x33, x34, x35 => if x35 < x34 then (if 0 ≤ x35 then (if x35 < (x33.length : Int) then (if x35 < (x4.length : Int) then (if 0 ≤ x5 then (if x5 < ((rd_L1 x4 x35).length : Int) then (matrix_Transpose.l1 k (x4.set (x35 : Int).toNat ((rd_L1 x4 x35).set (x5 : Int).toNat (rd x33 x35))) x5 x26 x27 x28 x33 x34 (wrap64 (x35 + 1))) else (none)) else (none)) else (none)) else (none)) else (none)) else (matrix_Transpose.l0 k x4 x26 x27 (wrap64 (x28 + 1)))
end
def matrix_Transpose.f (k : Nat) (l0 : List (List Int)) : Option ((List (List Int)) × Int) := (matrix_Check.f k l0).bind fun t181 => (if t181 = 0 then (if 0 < (l0.length : Int) then (matrix_Transpose.j0 k l0 (decide (((rd_L1 l0 0).length : Int) > 256))) else (none)) else (matrix_Transpose.j0 k l0 true))
theorem matrix_Transpose.mono_l : ∀ k, (∀ y0 y1, LeO (matrix_Transpose.j0 k y0 y1) (matrix_Transpose.j0 (k + 1) y0 y1)) ∧ (∀ y0 y1 y2 y3, LeO (matrix_Transpose.l0 k y0 y1 y2 y3) (matrix_Transpose.l0 (k + 1) y0 y1 y2 y3)) ∧ (∀ y0 y1 y2 y3 y4 y5 y6 y7, LeO (matrix_Transpose.l1 k y0 y1 y2 y3 y4 y5 y6 y7) (matrix_Transpose.l1 (k + 1) y0 y1 y2 y3 y4 y5 y6 y7))
 | 0 => ⟨fun _ _ r h => by simp [matrix_Transpose.j0] at h, fun _ _ _ _ r h => by simp [matrix_Transpose.l0] at h, fun _ _ _ _ _ _ _ _ r h => by simp [matrix_Transpose.l1] at h⟩
 | k + 1 => by
  obtain ⟨ih0, ih1, ih2⟩ := matrix_Transpose.mono_l k
  refine ⟨?_, ?_, ?_⟩
  ·intro y0 y1
   unfold matrix_Transpose.j0
   repeat' first
   | (with_reducible exact ih0 _ _)
   | (with_reducible exact ih1 _ _ _ _)
   | (with_reducible exact ih2 _ _ _ _ _ _ _ _)
   | (with_reducible exact matrix_Check.mono _ _)
   | (with_reducible exact matrix_blank.mono _ _ _)
   | (with_reducible exact LeO.refl _)
   | (with_reducible exact LeO.none _)
   | (with_reducible refine LeO.ite ?_ ?_)
   | (with_reducible refine LeO.bind ?_ (fun _ => ?_))
   | exact ih0 _ _
   | exact ih1 _ _ _ _
   | exact ih2 _ _ _ _ _ _ _ _
   | exact matrix_Check.mono _ _
   | exact matrix_blank.mono _ _ _
   | exact LeO.none _
   | refine LeO.ite ?_ ?_
   | refine LeO.bind ?_ (fun _ => ?_)
  ·intro y0 y1 y2 y3
   unfold matrix_Transpose.l0
   repeat' first
   | (with_reducible exact ih0 _ _)
   | (with_reducible exact ih1 _ _ _ _)
   | (with_reducible exact ih2 _ _ _ _ _ _ _ _)
   | (with_reducible exact matrix_Check.mono _ _)
   | (with_reducible exact matrix_blank.mono _ _ _)
   | (with_reducible exact LeO.refl _)
   | (with_reducible exact LeO.none _)
   | (with_reducible refine LeO.ite ?_ ?_)
   | (with_reducible refine LeO.bind ?_ (fun _ => ?_))
   | exact ih0 _ _
   | exact ih1 _ _ _ _
   | exact ih2 _ _ _ _ _ _ _ _
   | exact matrix_Check.mono _ _
   | exact matrix_blank.mono _ _ _
   | exact LeO.none _
   | refine LeO.ite ?_ ?_
   | refine LeO.bind ?_ (fun _ => ?_)
  ·intro y0 y1 y2 y3 y4 y5 y6 y7
   unfold matrix_Transpose.l1
   repeat' first
   | (with_reducible exact ih0 _ _)
   | (with_reducible exact ih1 _ _ _ _)
   | (with_reducible exact ih2 _ _ _ _ _ _ _ _)
   | (with_reducible exact matrix_Check.mono _ _)
   | (with_reducible exact matrix_blank.mono _ _ _)
   | (with_reducible exact LeO.refl _)
   | (with_reducible exact LeO.none _)
   | (with_reducible refine LeO.ite ?_ ?_)
   | (with_reducible refine LeO.bind ?_ (fun _ => ?_))
   | exact ih0 _ _
   | exact ih1 _ _ _ _
   | exact ih2 _ _ _ _ _ _ _ _
   | exact matrix_Check.mono _ _
   | exact matrix_blank.mono _ _ _
   | exact LeO.none _
   | refine LeO.ite ?_ ?_
   | refine LeO.bind ?_ (fun _ => ?_)
theorem matrix_Transpose.mono : ∀ a0 k, LeO (matrix_Transpose.f k a0) (matrix_Transpose.f (k + 1) a0) := by
 intro a0 k
 obtain ⟨ih0, ih1, ih2⟩ := matrix_Transpose.mono_l k
 unfold matrix_Transpose.f
 repeat' first
   | (with_reducible exact ih0 _ _)
   | (with_reducible exact ih1 _ _ _ _)
   | (with_reducible exact ih2 _ _ _ _ _ _ _ _)
   | (with_reducible exact matrix_Check.mono _ _)
   | (with_reducible exact matrix_blank.mono _ _ _)
   | (with_reducible exact LeO.refl _)
   | (with_reducible exact LeO.none _)
   | (with_reducible refine LeO.ite ?_ ?_)
   | (with_reducible refine LeO.bind ?_ (fun _ => ?_))
   | exact ih0 _ _
   | exact ih1 _ _ _ _
   | exact ih2 _ _ _ _ _ _ _ _
   | exact matrix_Check.mono _ _
   | exact matrix_blank.mono _ _ _
   | exact LeO.none _
   | refine LeO.ite ?_ ?_
   | refine LeO.bind ?_ (fun _ => ?_)
set_option maxHeartbeats 8000000 in
set_option maxRecDepth 100000 in
theorem matrix_Transpose.calls (k : Nat) (A0 : Option Addr) (c0 : Nat) (l0 : List (List Int)) (r1 : List (List Int)) (r2 : Int) (w : World) (hr0 : Kd.C (Kd.slice 5 (Kd.int .u8)) w A0 l0.length l0) (hc0 : l0.length ≤ c0) (h : matrix_Transpose.f k l0 = some (r1, r2)) :
  Calls Try.prog 21 #[.slice A0 l0.length c0] w fun e w' => ∃ v0_ : Value, e = .returned (.tuple #[v0_, .int .i64 r2]) ∧ Kd.S (Kd.slice 5 (Kd.int .u8)) 31 w' w.heap.size (fun _ => True) v0_ r1 ∧ Below w.heap.size w w' := by
 have HR0 := Aside0.mk hr0
 have HC0 := Aside0.mk hc0
 clear hr0 hc0
 have HB := Aside0.mk (Below.refl w.heap.size w)
 have H : ((matrix_Check.f k l0).bind fun t181 => (if t181 = 0 then (if 0 < (l0.length : Int) then (matrix_Transpose.j0 k l0 (decide (((rd_L1 l0 0).length : Int) > 256))) else (none)) else (matrix_Transpose.j0 k l0 true))) = some (r1, r2) := h
 clear h
 have HC2 := Aside0.mk H
 clear H
 go_enter Try.func21, Try.ntmps21
 go_upto_region 1 with (fail)
 go_cut [18] (fun v18 wc => ∃ (kq : Nat) (x18_1 : Bool), v18 = .bool x18_1 ∧ Aside0 (matrix_Transpose.j0 kq l0 x18_1 = some (r1, r2)) ∧ Aside0 (kq ≤ k) ∧ Aside0 (Below w.heap.size w wc))
 case first =>
  have H := HC2.out
  clear HC2
  replace H := Option.bind_eq_some_iff.mp H
  obtain ⟨t181, A30, H⟩ := H
  replace H : (if t181 = 0 then (if 0 < (l0.length : Int) then (matrix_Transpose.j0 k l0 (decide (((rd_L1 l0 0).length : Int) > 256))) else (none)) else (matrix_Transpose.j0 k l0 true)) = some (r1, r2) := H
  have A3 := Aside0.mk A30
  clear A30
  by_cases c4 : t181 = 0
  ·rw [if_pos c4] at H
   have c4b0 : (t181 == 0) = true := beq_iff_eq.mpr c4
   have c4b1 : (t181 != 0) = false := bne_eq_false_iff_eq.mpr c4
   clear c4
   (first | rw [c4b0] | (simp only [i64_w, i32_w]; rw [c4b0]) | skip)
   by_cases c5 : 0 < (l0.length : Int)
   ·rw [if_pos c5] at H
    have c5b0 : decide (0 < (l0.length : Int)) = true := decide_eq_true c5
    have c5b1 : decide (0 < l0.length) = true := decide_eq_true (by omega)
    clear c5
    have H' := Aside0.mk H
    clear H
    go_wp2_with (first | ((with_reducible refine gate_callee (f := 14) rfl ?_); refine goesL_ (some 10) rfl rfl Try.func14 (by kernel_rfl) rfl #[.slice A0 l0.length c0] rfl (by (try simp only [List.map_toArray, List.map_cons, List.map_nil]); first | done | rfl | (simp only [tb_wrap8]; done) | (simp only [tb_wrap8]; rfl) | (simp only [List.length_drop, List.length_take]; rfl)) ?_; (with_reducible refine (matrix_Check.calls k _ _ l0 t181 _ ?side1 ?side2 A3.out).mono ?_); (case side1 => repeat (first | exact (Kd.C_below HR0.out HB.out) | (with_reducible refine Kd.C_alloc ?_ _) | (with_reducible refine Kd.C_drewN ?_ _) | (with_reducible refine Kd.C_drew ?_))); (case side2 => exact HC0.out); rintro e w' ⟨rfl, ⟨nd, rfl⟩⟩; refine ⟨_, rfl, ?_⟩; have p182 : 0 ≤ (0 : Int) := (by omega); have q182 : 0 < (l0.length : Int) := of_decide_eq_true (by first | (with_reducible assumption) | assumption); obtain ⟨ad182, A182_0, c182_0, e182, hx182_0, hl182_0, hi182_0⟩ := at_L1 HR0.out 0 p182 q182; cases e182; have qi182 : (0 < l0.length) = True := eq_true (by omega); (try rw [show ((0 : Int)).toNat = 0 from rfl] at hx182_0); (try rw [Addr.add_zero'] at hx182_0); replace hx182_0 := (HB.out.cell (World.block_lt_of_cell? w _ hx182_0)).trans hx182_0; have HR182_0 := Aside0.mk hi182_0; have HC182_0 := Aside0.mk hl182_0; clear hi182_0 hl182_0; replace p182 := eq_true p182; replace q182 := eq_true q182))
    go_meet
    case rel => exact ⟨_, (decide (((rd_L1 l0 0).length : Int) > 256)), (by first | rfl | (simp; done) | (simp [*]; done)), H', ⟨by first | omega | exact Nat.le_refl _⟩, ⟨by repeat (first | (with_reducible first | exact HB.out | apply below_alloc | apply pw_below_drewN | apply below_drew1) | exact HB.out)⟩⟩
   ·rw [if_neg c5] at H
    exact absurd H (by simp)
  ·rw [if_neg c4] at H
   have c4b0 : (t181 == 0) = false := beq_eq_false_iff_ne.mpr c4
   have c4b1 : (t181 != 0) = true := bne_iff_ne.mpr c4
   (first | rw [c4b0] | (simp only [i64_w, i32_w]; rw [c4b0]) | skip)
   have H' := Aside0.mk H
   clear H
   go_wp2_with (first | ((with_reducible refine gate_callee (f := 14) rfl ?_); refine goesL_ (some 10) rfl rfl Try.func14 (by kernel_rfl) rfl #[.slice A0 l0.length c0] rfl (by (try simp only [List.map_toArray, List.map_cons, List.map_nil]); first | done | rfl | (simp only [tb_wrap8]; done) | (simp only [tb_wrap8]; rfl) | (simp only [List.length_drop, List.length_take]; rfl)) ?_; (with_reducible refine (matrix_Check.calls k _ _ l0 t181 _ ?side1 ?side2 A3.out).mono ?_); (case side1 => repeat (first | exact (Kd.C_below HR0.out HB.out) | (with_reducible refine Kd.C_alloc ?_ _) | (with_reducible refine Kd.C_drewN ?_ _) | (with_reducible refine Kd.C_drew ?_))); (case side2 => exact HC0.out); rintro e w' ⟨rfl, ⟨nd, rfl⟩⟩; refine ⟨_, rfl, ?_⟩))
   go_meet
   case rel => exact ⟨_, (true), (by first | rfl | (simp; done) | (simp [*]; done)), H', ⟨by first | omega | exact Nat.le_refl _⟩, ⟨by repeat (first | (with_reducible first | exact HB.out | apply below_alloc | apply pw_below_drewN | apply below_drew1) | exact HB.out)⟩⟩
 case rest =>
  clear HC2
  try clear c1
  try clear p1
  try clear q1
  try clear hx1
  try clear qi1
  try clear c2
  try clear p2
  try clear c4
  try clear c4b0
  try clear c4b1
  try clear c5
  try clear c5b0
  try clear c5b1
  try clear hx182_0
  try clear p182
  try clear q182
  obtain ⟨kq, x18_1, rfl, HA, HJ1, HB⟩ := hcut
  cases kq with
  | zero => exact absurd HA.out (by simp [matrix_Transpose.j0])
  | succ kj1 =>
   have H := HA.out
   clear HA
   simp only [matrix_Transpose.j0] at H
   by_cases c6 : x18_1 = true
   ·subst c6
    have H1 : (some (([] : List (List Int)), 100)) = some (r1, r2) := by rw [if_pos rfl] at H; exact H
    clear H
    have H := H1
    clear H1
    simp only [Option.some.injEq, Prod.mk.injEq] at H
    obtain ⟨rfl, rfl⟩ := H
    go_wp2
    go_ret2
    exact ⟨_, by first | rfl | (simp [errW_none, errW_some] <;> rfl) | (simp [*, errW_none, errW_some] <;> rfl), by first | exact Kd.S_nil _ _ _ _ _ | exact Kd.N_nil _ _ _ _ _ | exact Kd.V_nil _ _ _ _ _ | exact Kd.Q_nil _ _ _ _ _ | exact Kd.R_nil _ _ _ _ _, by repeat (first | (with_reducible first | exact HB.out | apply below_alloc | apply pw_below_drewN | apply below_drew1) | exact HB.out)⟩
   ·replace c6 := Bool.eq_false_iff.mpr c6
    subst c6
    have H1 : (if 0 < (l0.length : Int) then ((matrix_blank.f kj1 ((rd_L1 l0 0).length : Int) (l0.length : Int)).bind fun t184 => (matrix_Transpose.l0 kj1 t184 l0 (l0.length : Int) 0)) else (none)) = some (r1, r2) := by rw [if_neg (show ¬ (false = true) by decide)] at H; exact H
    clear H
    have H := H1
    clear H1
    by_cases c7 : 0 < (l0.length : Int)
    ·rw [if_pos c7] at H
     have c7b0 : decide (0 < (l0.length : Int)) = true := decide_eq_true c7
     have c7b1 : decide (0 < l0.length) = true := decide_eq_true (by omega)
     clear c7
     replace H := Option.bind_eq_some_iff.mp H
     obtain ⟨t184, A80, H⟩ := H
     replace H : (matrix_Transpose.l0 kj1 t184 l0 (l0.length : Int) 0) = some (r1, r2) := H
     have A8 := Aside0.mk A80
     clear A80
     have H' := Aside0.mk H
     clear H
     have p183 : 0 ≤ (0 : Int) := (by omega)
     have q183 : 0 < (l0.length : Int) := of_decide_eq_true (by first | (with_reducible assumption) | assumption)
     obtain ⟨ad183, A183_0, c183_0, e183, hx183_0, hl183_0, hi183_0⟩ := at_L1 HR0.out 0 p183 q183
     cases e183
     have qi183 : (0 < l0.length) = True := eq_true (by omega)
     (try rw [show ((0 : Int)).toNat = 0 from rfl] at hx183_0)
     (try rw [Addr.add_zero'] at hx183_0)
     replace hx183_0 := (HB.out.cell (World.block_lt_of_cell? w _ hx183_0)).trans hx183_0
     have HR183_0 := Aside0.mk hi183_0
     have HC183_0 := Aside0.mk hl183_0
     clear hi183_0 hl183_0
     replace p183 := eq_true p183
     replace q183 := eq_true q183
     go_wp2_with (first | ((with_reducible refine gate_callee (f := 43) rfl ?_); refine goesL_ (some 25) rfl rfl Try.func43 (by kernel_rfl) rfl #[.int .i64 ((rd_L1 l0 0).length : Int), .int .i64 (l0.length : Int)] rfl (by (try simp only [List.map_toArray, List.map_cons, List.map_nil]); first | done | rfl | (simp only [tb_wrap8]; done) | (simp only [tb_wrap8]; rfl) | (simp only [List.length_drop, List.length_take]; rfl)) ?_; (with_reducible refine (matrix_blank.calls kj1 ((rd_L1 l0 0).length : Int) (l0.length : Int) t184 _ A8.out).mono ?_); rintro e w9 ⟨v185, rfl, ho0, hb⟩; refine ⟨_, rfl, ?_⟩; have n0_ := Aside0.mk (Kd.S_lower ho0 (below_size (by repeat (first | (with_reducible first | exact HB.out | apply below_alloc | apply pw_below_drewN | apply below_drew1) | exact HB.out)))); have n1_ := Aside0.mk (below_step (by repeat (first | (with_reducible first | exact HB.out | apply below_alloc | apply pw_below_drewN | apply below_drew1) | exact HB.out)) hb); clear HB; have HO186 := n0_; have HB := n1_; clear n0_ n1_; (try clear hb); (try clear hb2); (try clear hk); (try clear hi); (try clear ho0)))
     go_loopg [28] kj1 (fun kq v28 w' => ∃ (x4_2 : List (List Int)) (x28_2 : Int), v28 = .int .i64 x28_2 ∧ Aside0 (matrix_Transpose.l0 kq x4_2 l0 (l0.length : Int) x28_2 = some (r1, r2)) ∧ Aside0 (kq ≤ kj1) ∧ Aside0 (Kd.S (Kd.slice 5 (Kd.int .u8)) 31 w' w.heap.size (fun _ => True) v185 x4_2) ∧ Aside0 (Below w.heap.size w w'))
     case atStart => exact ⟨(t184), (0), (by first | rfl | (simp; done) | (simp [*]; done)), H', ⟨Nat.le_refl _⟩, ⟨by (with_reducible repeat (first | apply Kd.S_alloc | apply Kd.S_drewN | apply Kd.S_drew)); exact HO186.out⟩, ⟨by repeat (first | (with_reducible first | exact HB.out | apply below_alloc | apply pw_below_drewN | apply below_drew1) | exact HB.out)⟩⟩
     case round =>
      clear H'
      try clear c1
      try clear p1
      try clear q1
      try clear hx1
      try clear qi1
      try clear c2
      try clear p2
      try clear c4
      try clear c4b0
      try clear c4b1
      try clear c5
      try clear c5b0
      try clear c5b1
      try clear c6
      try clear c7
      try clear c7b0
      try clear c7b1
      try clear p8
      try clear hx182_0
      try clear hx183_0
      try clear p1
      try clear p182
      try clear p183
      try clear p2
      try clear q1
      try clear q182
      try clear q183
      obtain ⟨x4_2, x28_2, rfl, HA, HK2, HO_4, HB⟩ := hrel
      cases gk with
      | zero => exact absurd HA.out (by simp [matrix_Transpose.l0])
      | succ k2 =>
       have H := HA.out
       clear HA
       simp only [matrix_Transpose.l0] at H
       by_cases c10 : x28_2 < (l0.length : Int)
       ·rw [if_pos c10] at H
        have c10b0 : decide (x28_2 < (l0.length : Int)) = true := decide_eq_true c10
        clear c10
        by_cases c11 : 0 ≤ x28_2
        ·rw [if_pos c11] at H
         have c11b0 : decide (0 ≤ x28_2) = true := decide_eq_true c11
         clear c11
         by_cases c12 : x28_2 < (l0.length : Int)
         ·rw [if_pos c12] at H
          have c12b0 : decide (x28_2 < (l0.length : Int)) = true := decide_eq_true c12
          clear c12
          have H' := Aside0.mk H
          clear H
          have p187 : 0 ≤ (x28_2 : Int) := of_decide_eq_true (by first | (with_reducible assumption) | assumption)
          have q187 : x28_2 < (l0.length : Int) := of_decide_eq_true (by first | (with_reducible assumption) | assumption)
          obtain ⟨ad187, A187_0, c187_0, e187, hx187_0, hl187_0, hi187_0⟩ := at_L1 HR0.out x28_2 p187 q187
          obtain rfl : ad183 = ad187 := (by injection e187)
          replace hx187_0 := (HB.out.cell (World.block_lt_of_cell? w _ hx187_0)).trans hx187_0
          have HR187_0 := Aside0.mk hi187_0
          have HC187_0 := Aside0.mk hl187_0
          clear hi187_0 hl187_0
          replace p187 := eq_true p187
          replace q187 := eq_true q187
          go_wp2
          go_loopg [35] k2 (fun kq v35 w' => ∃ (x4_3 : List (List Int)) (x35_3 : Int), v35 = .int .i64 x35_3 ∧ Aside0 (matrix_Transpose.l1 kq x4_3 x28_2 l0 (l0.length : Int) x28_2 (rd_L1 l0 x28_2) ((rd_L1 l0 x28_2).length : Int) x35_3 = some (r1, r2)) ∧ Aside0 (kq ≤ k2) ∧ Aside0 (Kd.S (Kd.slice 5 (Kd.int .u8)) 31 w' w.heap.size (fun _ => True) v185 x4_3) ∧ Aside0 (Below w.heap.size w w'))
          case atStart => exact ⟨(x4_2), (0), (by first | rfl | (simp; done) | (simp [*]; done)), H', ⟨Nat.le_refl _⟩, ⟨by (with_reducible repeat (first | apply Kd.S_alloc | apply Kd.S_drewN | apply Kd.S_drew)); exact HO_4.out⟩, ⟨by repeat (first | (with_reducible first | exact HB.out | apply below_alloc | apply pw_below_drewN | apply below_drew1) | exact HB.out)⟩⟩
          case round =>
           clear H'
           try clear c1
           try clear p1
           try clear q1
           try clear hx1
           try clear qi1
           try clear c2
           try clear p2
           try clear c4
           try clear c4b0
           try clear c4b1
           try clear c5
           try clear c5b0
           try clear c5b1
           try clear c6
           try clear c7
           try clear c7b0
           try clear c7b1
           try clear p8
           try clear c10
           try clear c10b0
           try clear c11
           try clear c11b0
           try clear c12
           try clear c12b0
           try clear hx182_0
           try clear hx183_0
           try clear hx187_0
           try clear p1
           try clear p182
           try clear p183
           try clear p187
           try clear p2
           try clear p8
           try clear q1
           try clear q182
           try clear q183
           try clear q187
           obtain ⟨x4_3, x35_3, rfl, HA, HK3, HO_4, HB⟩ := hrel
           cases gk with
           | zero => exact absurd HA.out (by simp [matrix_Transpose.l1])
           | succ k3 =>
            have H := HA.out
            clear HA
            simp only [matrix_Transpose.l1] at H
            by_cases c13 : x35_3 < ((rd_L1 l0 x28_2).length : Int)
            ·rw [if_pos c13] at H
             have c13b0 : decide (x35_3 < ((rd_L1 l0 x28_2).length : Int)) = true := decide_eq_true c13
             clear c13
             by_cases c14 : 0 ≤ x35_3
             ·rw [if_pos c14] at H
              have c14b0 : decide (0 ≤ x35_3) = true := decide_eq_true c14
              clear c14
              by_cases c15 : x35_3 < ((rd_L1 l0 x28_2).length : Int)
              ·rw [if_pos c15] at H
               have c15b0 : decide (x35_3 < ((rd_L1 l0 x28_2).length : Int)) = true := decide_eq_true c15
               clear c15
               by_cases c16 : x35_3 < (x4_3.length : Int)
               ·rw [if_pos c16] at H
                have c16b0 : decide (x35_3 < (x4_3.length : Int)) = true := decide_eq_true c16
                clear c16
                by_cases c17 : 0 ≤ x28_2
                ·rw [if_pos c17] at H
                 have c17b0 : decide (0 ≤ x28_2) = true := decide_eq_true c17
                 clear c17
                 by_cases c18 : x28_2 < ((rd_L1 x4_3 x35_3).length : Int)
                 ·rw [if_pos c18] at H
                  have c18b0 : decide (x28_2 < ((rd_L1 x4_3 x35_3).length : Int)) = true := decide_eq_true c18
                  clear c18
                  obtain ⟨y190, hy190⟩ : ∃ y_ : List Int, y_ = ((rd_L1 x4_3 x35_3).set (x28_2 : Int).toNat (rd (rd_L1 l0 x28_2) x35_3)) := ⟨_, rfl⟩
                  replace H : (matrix_Transpose.l1 k3 (x4_3.set (x35_3 : Int).toNat y190) x28_2 l0 (l0.length : Int) x28_2 (rd_L1 l0 x28_2) ((rd_L1 l0 x28_2).length : Int) (wrap64 (x35_3 + 1))) = some (r1, r2) := by first | (rw [hy190]; with_reducible exact H) | (have H2_ := (Option.bind_some _ _).symm.trans H; rw [hy190]; with_reducible exact H2_) | (have H2_ := (Option.bind_some _ _).symm.trans H; with_reducible exact H2_) | with_reducible exact H | (rw [hy190]; exact H) | exact H
                  have Ny190 := Aside0.mk hy190
                  clear hy190
                  obtain ⟨y192, hy192⟩ : ∃ y_ : List (List Int), y_ = (x4_3.set (x35_3 : Int).toNat y190) := ⟨_, rfl⟩
                  replace H : (matrix_Transpose.l1 k3 y192 x28_2 l0 (l0.length : Int) x28_2 (rd_L1 l0 x28_2) ((rd_L1 l0 x28_2).length : Int) (wrap64 (x35_3 + 1))) = some (r1, r2) := by first | (rw [hy192]; with_reducible exact H) | (have H2_ := (Option.bind_some _ _).symm.trans H; rw [hy192]; with_reducible exact H2_) | (have H2_ := (Option.bind_some _ _).symm.trans H; with_reducible exact H2_) | with_reducible exact H | (rw [hy192]; exact H) | exact H
                  have Ny192 := Aside0.mk hy192
                  clear hy192
                  have H' := Aside0.mk H
                  clear H
                  have p188 : 0 ≤ (x35_3 : Int) := of_decide_eq_true (by first | (with_reducible assumption) | assumption)
                  have q188 : x35_3 < ((rd_L1 l0 x28_2).length : Int) := of_decide_eq_true (by first | (with_reducible assumption) | assumption)
                  obtain ⟨ad188, e188, hx188_0⟩ := Kd.at_int HR187_0.out x35_3 p188 q188
                  cases e188
                  replace hx188_0 := (HB.out.cell (World.block_lt_of_cell? w _ hx188_0)).trans hx188_0
                  replace p188 := eq_true p188
                  replace q188 := eq_true q188
                  obtain ⟨Ao20, co20, eo20⟩ := Kd.S_slice HO_4.out
                  subst eo20
                  have p189 : 0 ≤ (x35_3 : Int) := of_decide_eq_true (by first | (with_reducible assumption) | assumption)
                  have q189 : x35_3 < (x4_3.length : Int) := of_decide_eq_true (by first | (with_reducible assumption) | assumption)
                  obtain ⟨ad189, A189_0, c189_0, e189, hx189_0, hl189_0, hi189_0⟩ := at_L1 (Kd.S_reads' HO_4.out).2.2 x35_3 p189 q189
                  cases e189
                  obtain ⟨ce189, hce189, hMe189, hcc189⟩ := Kd.S_get HO_4.out [] x35_3 p189 (by first | exact q189 | exact of_decide_eq_true (by first | (with_reducible assumption) | assumption) | (have e_ := (Kd.S_reads' HO_4.out).1; omega))
                  obtain ⟨ve189_0, rfl, ge189_0⟩ := hMe189
                  have hv189_0 := hcc189 0 _ rfl
                  rw [Nat.add_zero, show ((Kd.slice 5 (Kd.int .u8))).sz = 1 from rfl, Nat.mul_one] at hv189_0
                  replace hv189_0 := Option.some.inj (hv189_0.symm.trans hx189_0)
                  rw [hv189_0] at ge189_0
                  have HL189_0 := Aside0.mk (show Kd.R (Kd.int .u8) 5 _ _ _ _ (rd_L1 x4_3 x35_3) from ge189_0)
                  clear hv189_0 ge189_0
                  have HX189_0 := Aside0.mk hx189_0
                  clear hcc189 hce189
                  have HR189_0 := Aside0.mk hi189_0
                  have HC189_0 := Aside0.mk hl189_0
                  clear hi189_0 hl189_0
                  replace p189 := eq_true p189
                  replace q189 := eq_true q189
                  have p19 : 0 ≤ (x28_2 : Int) := of_decide_eq_true (by first | (with_reducible assumption) | assumption)
                  have q19 : (x28_2 : Int) < (((rd_L1 x4_3 x35_3).length : Int) : Int) := of_decide_eq_true (by first | (with_reducible assumption) | assumption)
                  obtain ⟨go19, co19, eo19, gb19, gl19, cl19, HG19⟩ := Kd.R_form HL189_0.out (by omega)
                  (first | cases eo19 | (injection eo19 with ea_ en_ ec_; (first | subst ea_ | (injection ea_ with ea_; subst ea_)); subst ec_; clear en_))
                  have GB19 := Aside0.mk gb19
                  have GG19 := Aside0.mk HG19
                  clear gb19 gl19 HG19
                  obtain ⟨hx19_0, hf19_0⟩ := Kd.R_celln 0 HL189_0.out (x28_2 : Int) p19 q19
                  replace p19 := eq_true p19
                  replace q19 := eq_true q19
                  have hq21 : (x35_3 : Int) < (x4_3.length : Int) := (by have h_ : (x35_3 : Int) < ((x4_3.length : Int) : Int) := of_decide_eq_true (by first | (with_reducible assumption) | assumption); first | exact h_ | (have e_ := (Kd.S_reads' HO_4.out).1; omega) | simpa only [List.length_set, List.length_set] using h_)
                  obtain ⟨oki21, ce21, hcl21, hM21, hcc21, hok21, hbk21⟩ := Kd.S_borrow HO_4.out [] (x35_3 : Int) (of_decide_eq_true (by first | (with_reducible assumption) | assumption)) hq21
                  obtain ⟨ve21_0, rfl, ge21_0⟩ := hM21
                  have hv21 := hcc21 0 _ rfl
                  rw [Nat.add_zero, show ((Kd.slice 5 (Kd.int .u8))).sz = 1 from rfl, Nat.mul_one] at hv21
                  replace hv21 := Option.some.inj (hv21.symm.trans HX189_0.out)
                  subst hv21
                  clear hcc21 hcl21
                  replace ge21_0 := (show Kd.R (Kd.int .u8) 5 _ _ _ _ (rd_L1 x4_3 x35_3) from ge21_0)
                  have HP21 := Kd.R_putg ge21_0 (x28_2 : Int) (rd (rd_L1 l0 x28_2) x35_3)
                  go_wp2_with (first | ((with_reducible refine gate_store (t := 5) (p := 46) rfl ?_); refine store_event (t := 5) (p := 46) (v := ?vo_w22) (w1 := (wr.setCell ⟨go19, (x28_2 : Int).toNat, none⟩ (.int .u8 (rd (rd_L1 l0 x28_2) x35_3)))) ?hg ?ho ?hn ?hr ?_; (case ho => rfl); (case hg => rfl); (case hn => rfl); (case hr => first | (go_simp; done) | (go_simp; rfl)); intro w22 hw; have hg : wr.grownBy w22 (some go19) := (by rw [hw]; exact HP21.2); have hz_ : Kd.R (Kd.int .u8) 5 w22 w.heap.size oki21 (.slice (some ⟨go19, 0, none⟩) (rd_L1 x4_3 x35_3).length c189_0) y190 := (by rw [hw, Ny190.out]; exact HP21.1); have hp_ : Kd.S (Kd.slice 5 (Kd.int .u8)) 31 w22 w.heap.size (fun _ => True) (.slice (some ad189) x4_3.length co20) y192 := (by rw [Ny192.out]; exact hbk21 hg (fun k_ e_ => by injection e_ with e_; subst e_; exact ge21_0.1 _ rfl) (Kd.M_row hz_)); have hm_ := Kd.R_mono hz_ hok21; clear HP21 hbk21; have n0_ := Aside0.mk (hp_); have n1_ := Aside0.mk ((by rw [hw]; exact below_set (HB.out) GB19.out : Below w.heap.size w w22)); have n2_ := Aside0.mk (hm_); have n3_ := Aside0.mk ((Kd.R_reads' hm_).2.1); clear HO_4; clear HB; clear HL189_0; have HO_4 := n0_; have HB := n1_; have HL193 := n2_; have HC191 := n3_; clear n0_ n1_ n2_ n3_; clear hg hw hp_ hz_ hm_ hok21))
                  go_roundg k3
                  case measure => have := HJ1.out; have := HK2.out; have := HK3.out; omega
                  case rel => exact ⟨(y192), (wrap64 (x35_3 + 1)), (by first | rfl | (simp; done) | (simp [*]; done)), H', ⟨by have := HJ1.out; have := HK2.out; have := HK3.out; omega⟩, ⟨by (with_reducible repeat (first | apply Kd.S_alloc | apply Kd.S_drewN | apply Kd.S_drew)); exact HO_4.out⟩, ⟨by repeat (first | (with_reducible first | exact HB.out | apply below_alloc | apply pw_below_drewN | apply below_drew1) | exact HB.out)⟩⟩
                 ·rw [if_neg c18] at H
                  exact absurd H (by simp)
                ·rw [if_neg c17] at H
                 exact absurd H (by simp)
               ·rw [if_neg c16] at H
                exact absurd H (by simp)
              ·rw [if_neg c15] at H
               exact absurd H (by simp)
             ·rw [if_neg c14] at H
              exact absurd H (by simp)
            ·rw [if_neg c13] at H
             have c13b0 : decide (x35_3 < ((rd_L1 l0 x28_2).length : Int)) = false := decide_eq_false c13
             clear c13
             have H' := Aside0.mk H
             clear H
             go_wp2
             go_roundg k3
             case measure => have := HJ1.out; have := HK2.out; have := HK3.out; omega
             case rel => exact ⟨(x4_3), (wrap64 (x28_2 + 1)), (by first | rfl | (simp; done) | (simp [*]; done)), H', ⟨by have := HJ1.out; have := HK2.out; have := HK3.out; omega⟩, ⟨by (with_reducible repeat (first | apply Kd.S_alloc | apply Kd.S_drewN | apply Kd.S_drew)); exact HO_4.out⟩, ⟨by repeat (first | (with_reducible first | exact HB.out | apply below_alloc | apply pw_below_drewN | apply below_drew1) | exact HB.out)⟩⟩
         ·rw [if_neg c12] at H
          exact absurd H (by simp)
        ·rw [if_neg c11] at H
         exact absurd H (by simp)
       ·rw [if_neg c10] at H
        have c10b0 : decide (x28_2 < (l0.length : Int)) = false := decide_eq_false c10
        clear c10
        simp only [Option.some.injEq, Prod.mk.injEq] at H
        obtain ⟨rfl, rfl⟩ := H
        go_wp2
        go_ret2
        exact ⟨_, by first | rfl | (simp [errW_none, errW_some] <;> rfl) | (simp [*, errW_none, errW_some] <;> rfl), by (with_reducible repeat (first | apply Kd.S_alloc | apply Kd.S_drewN | apply Kd.S_drew)); exact HO_4.out, by repeat (first | (with_reducible first | exact HB.out | apply below_alloc | apply pw_below_drewN | apply below_drew1) | exact HB.out)⟩
    ·rw [if_neg c7] at H
     exact absurd H (by simp)

end Go.Proofs.Ytidogckochpbgaa.A
