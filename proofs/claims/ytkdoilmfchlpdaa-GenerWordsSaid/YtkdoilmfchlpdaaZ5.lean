import Derived.Test.YtkdoilmfchlpdaaZ4
section
-- Printed for this claim by mp.py, a program of its prover, through the kit's print. Lean checks it.
namespace Go.Proofs.Ytkdoilmfchlpdaa.A
open Go.RowKit Go.Proofs.YtkdoilmfchlpdaaW.PrintWords Go.Proofs.YtkdoilmfchlpdaaW.PrintLast Go.Proofs.YtkdoilmfchlpdaaW.PrintMore
attribute [local go_sem] max2_int min2_int max_two min_two max_three min_three max_four min_four   -- for this text's walks alone
set_option linter.unusedVariables false
set_option linter.unusedSimpArgs false

/-! ### matrix_Mul: function 49 -/
mutual
def matrix_Mul.j0 : Nat → List (List Int) → List (List Int) → Bool → Option ((List (List Int)) × Int)
 | 0, _, _, _ => none
 | k + 1, x0, x1, x21 => if x21 = true then (some (([] : List (List Int)), 100)) else (if 0 < (x0.length : Int) then (if ((rd_L1 x0 0).length : Int) = (x1.length : Int) then ((gf8_New.f).bind fun _ => (if 0 < (x1.length : Int) then ((matrix_blank.f k (x0.length : Int) ((rd_L1 x1 0).length : Int)).bind fun t151 => (matrix_Mul.l0 k x1 t151 x0 (x0.length : Int) 0)) else (none))) else (some (([] : List (List Int)), 101))) else (none))
def matrix_Mul.l0 : Nat → List (List Int) → List (List Int) → List (List Int) → Int → Int → Option ((List (List Int)) × Int)
 | 0, _, _, _, _, _ => none
 | k + 1, x1, x7, x37, x38, x39 => if x39 < x38 then (if 0 ≤ x39 then (if x39 < (x37.length : Int) then (matrix_Mul.l1 k x1 x7 x39 x37 x38 x39 (rd_L1 x37 x39) ((rd_L1 x37 x39).length : Int) 0) else (none)) else (none)) else (some (x7, 0))
def matrix_Mul.l1 : Nat → List (List Int) → List (List Int) → Int → List (List Int) → Int → Int → List Int → Int → Int → Option ((List (List Int)) × Int)
 | 0, _, _, _, _, _, _, _, _, _ => none
 | k + 1, x1, x7, x8, x37, x38, x39, x44, x45, x46 => if x46 < x45 then (if 0 ≤ x46 then (if x46 < (x44.length : Int) then (if (rd x44 x46) = 0 then (matrix_Mul.l1 k x1 x7 x8 x37 x38 x39 x44 x45 (wrap64 (x46 + 1))) else (if x46 < (x1.length : Int) then (matrix_Mul.l2 k x1 x7 x8 (rd x44 x46) x37 x38 x39 x44 x45 x46 (rd_L1 x1 x46) ((rd_L1 x1 x46).length : Int) 0) else (none))) else (none)) else (none)) else (matrix_Mul.l0 k x1 x7 x37 x38 (wrap64 (x39 + 1)))
def matrix_Mul.l2 : Nat → List (List Int) → List (List Int) → Int → Int → List (List Int) → Int → Int → List Int → Int → Int → List Int → Int → Int → Option ((List (List Int)) × Int)
 | 0, _, _, _, _, _, _, _, _, _, _, _, _, _ => none
 | k + 1, x1, x7, x8, x11, x37, x38, x39, x44, x45, x46, x56, x57, x58 => if x58 < x57 then (if 0 ≤ x58 then (if x58 < (x56.length : Int) then (if 0 ≤ x8 then (if x8 < (x7.length : Int) then (if x58 < ((rd_L1 x7 x8).length : Int) then ((gf8_Tables_Mul.f x11 (rd x56 x58)).bind fun t160 => (matrix_Mul.l2 k x1 (x7.set (x8 : Int).toNat ((rd_L1 x7 x8).set (x58 : Int).toNat (Go.bits .xor .u8 (rd (rd_L1 x7 x8) x58) t160))) x8 x11 x37 x38 x39 x44 x45 x46 x56 x57 (wrap64 (x58 + 1)))) else (none)) else (none)) else (none)) else (none)) else (none)) else (matrix_Mul.l1 k x1 x7 x8 x37 x38 x39 x44 x45 (wrap64 (x46 + 1)))
end
def matrix_Mul.f (k : Nat) (l0 : List (List Int)) (l1 : List (List Int)) : Option ((List (List Int)) × Int) := (matrix_Check.f k l0).bind fun t146 => (if t146 = 0 then ((matrix_Check.f k l1).bind fun t147 => (matrix_Mul.j0 k l0 l1 (t147 != 0))) else (matrix_Mul.j0 k l0 l1 true))
theorem matrix_Mul.mono_l : ∀ k, (∀ y0 y1 y2, LeO (matrix_Mul.j0 k y0 y1 y2) (matrix_Mul.j0 (k + 1) y0 y1 y2)) ∧ (∀ y0 y1 y2 y3 y4, LeO (matrix_Mul.l0 k y0 y1 y2 y3 y4) (matrix_Mul.l0 (k + 1) y0 y1 y2 y3 y4)) ∧ (∀ y0 y1 y2 y3 y4 y5 y6 y7 y8, LeO (matrix_Mul.l1 k y0 y1 y2 y3 y4 y5 y6 y7 y8) (matrix_Mul.l1 (k + 1) y0 y1 y2 y3 y4 y5 y6 y7 y8)) ∧ (∀ y0 y1 y2 y3 y4 y5 y6 y7 y8 y9 y10 y11 y12, LeO (matrix_Mul.l2 k y0 y1 y2 y3 y4 y5 y6 y7 y8 y9 y10 y11 y12) (matrix_Mul.l2 (k + 1) y0 y1 y2 y3 y4 y5 y6 y7 y8 y9 y10 y11 y12))
 | 0 => ⟨fun _ _ _ r h => by simp [matrix_Mul.j0] at h, fun _ _ _ _ _ r h => by simp [matrix_Mul.l0] at h, fun _ _ _ _ _ _ _ _ _ r h => by simp [matrix_Mul.l1] at h, fun _ _ _ _ _ _ _ _ _ _ _ _ _ r h => by simp [matrix_Mul.l2] at h⟩
 | k + 1 => by
  obtain ⟨ih0, ih1, ih2, ih3⟩ := matrix_Mul.mono_l k
  refine ⟨?_, ?_, ?_, ?_⟩
  ·intro y0 y1 y2
   unfold matrix_Mul.j0
   repeat' first
   | (with_reducible exact ih0 _ _ _)
   | (with_reducible exact ih1 _ _ _ _ _)
   | (with_reducible exact ih2 _ _ _ _ _ _ _ _ _)
   | (with_reducible exact ih3 _ _ _ _ _ _ _ _ _ _ _ _ _)
   | (with_reducible exact matrix_Check.mono _ _)
   | (with_reducible exact matrix_blank.mono _ _ _)
   | (with_reducible exact LeO.refl _)
   | (with_reducible exact LeO.none _)
   | (with_reducible refine LeO.ite ?_ ?_)
   | (with_reducible refine LeO.bind ?_ (fun _ => ?_))
   | exact ih0 _ _ _
   | exact ih1 _ _ _ _ _
   | exact ih2 _ _ _ _ _ _ _ _ _
   | exact ih3 _ _ _ _ _ _ _ _ _ _ _ _ _
   | exact matrix_Check.mono _ _
   | exact matrix_blank.mono _ _ _
   | exact LeO.none _
   | refine LeO.ite ?_ ?_
   | refine LeO.bind ?_ (fun _ => ?_)
  ·intro y0 y1 y2 y3 y4
   unfold matrix_Mul.l0
   repeat' first
   | (with_reducible exact ih0 _ _ _)
   | (with_reducible exact ih1 _ _ _ _ _)
   | (with_reducible exact ih2 _ _ _ _ _ _ _ _ _)
   | (with_reducible exact ih3 _ _ _ _ _ _ _ _ _ _ _ _ _)
   | (with_reducible exact matrix_Check.mono _ _)
   | (with_reducible exact matrix_blank.mono _ _ _)
   | (with_reducible exact LeO.refl _)
   | (with_reducible exact LeO.none _)
   | (with_reducible refine LeO.ite ?_ ?_)
   | (with_reducible refine LeO.bind ?_ (fun _ => ?_))
   | exact ih0 _ _ _
   | exact ih1 _ _ _ _ _
   | exact ih2 _ _ _ _ _ _ _ _ _
   | exact ih3 _ _ _ _ _ _ _ _ _ _ _ _ _
   | exact matrix_Check.mono _ _
   | exact matrix_blank.mono _ _ _
   | exact LeO.none _
   | refine LeO.ite ?_ ?_
   | refine LeO.bind ?_ (fun _ => ?_)
  ·intro y0 y1 y2 y3 y4 y5 y6 y7 y8
   unfold matrix_Mul.l1
   repeat' first
   | (with_reducible exact ih0 _ _ _)
   | (with_reducible exact ih1 _ _ _ _ _)
   | (with_reducible exact ih2 _ _ _ _ _ _ _ _ _)
   | (with_reducible exact ih3 _ _ _ _ _ _ _ _ _ _ _ _ _)
   | (with_reducible exact matrix_Check.mono _ _)
   | (with_reducible exact matrix_blank.mono _ _ _)
   | (with_reducible exact LeO.refl _)
   | (with_reducible exact LeO.none _)
   | (with_reducible refine LeO.ite ?_ ?_)
   | (with_reducible refine LeO.bind ?_ (fun _ => ?_))
   | exact ih0 _ _ _
   | exact ih1 _ _ _ _ _
   | exact ih2 _ _ _ _ _ _ _ _ _
   | exact ih3 _ _ _ _ _ _ _ _ _ _ _ _ _
   | exact matrix_Check.mono _ _
   | exact matrix_blank.mono _ _ _
   | exact LeO.none _
   | refine LeO.ite ?_ ?_
   | refine LeO.bind ?_ (fun _ => ?_)
  ·intro y0 y1 y2 y3 y4 y5 y6 y7 y8 y9 y10 y11 y12
   unfold matrix_Mul.l2
   repeat' first
   | (with_reducible exact ih0 _ _ _)
   | (with_reducible exact ih1 _ _ _ _ _)
   | (with_reducible exact ih2 _ _ _ _ _ _ _ _ _)
   | (with_reducible exact ih3 _ _ _ _ _ _ _ _ _ _ _ _ _)
   | (with_reducible exact matrix_Check.mono _ _)
   | (with_reducible exact matrix_blank.mono _ _ _)
   | (with_reducible exact LeO.refl _)
   | (with_reducible exact LeO.none _)
   | (with_reducible refine LeO.ite ?_ ?_)
   | (with_reducible refine LeO.bind ?_ (fun _ => ?_))
   | exact ih0 _ _ _
   | exact ih1 _ _ _ _ _
   | exact ih2 _ _ _ _ _ _ _ _ _
   | exact ih3 _ _ _ _ _ _ _ _ _ _ _ _ _
   | exact matrix_Check.mono _ _
   | exact matrix_blank.mono _ _ _
   | exact LeO.none _
   | refine LeO.ite ?_ ?_
   | refine LeO.bind ?_ (fun _ => ?_)
theorem matrix_Mul.mono : ∀ a0 a1 k, LeO (matrix_Mul.f k a0 a1) (matrix_Mul.f (k + 1) a0 a1) := by
 intro a0 a1 k
 obtain ⟨ih0, ih1, ih2, ih3⟩ := matrix_Mul.mono_l k
 unfold matrix_Mul.f
 repeat' first
   | (with_reducible exact ih0 _ _ _)
   | (with_reducible exact ih1 _ _ _ _ _)
   | (with_reducible exact ih2 _ _ _ _ _ _ _ _ _)
   | (with_reducible exact ih3 _ _ _ _ _ _ _ _ _ _ _ _ _)
   | (with_reducible exact matrix_Check.mono _ _)
   | (with_reducible exact matrix_blank.mono _ _ _)
   | (with_reducible exact LeO.refl _)
   | (with_reducible exact LeO.none _)
   | (with_reducible refine LeO.ite ?_ ?_)
   | (with_reducible refine LeO.bind ?_ (fun _ => ?_))
   | exact ih0 _ _ _
   | exact ih1 _ _ _ _ _
   | exact ih2 _ _ _ _ _ _ _ _ _
   | exact ih3 _ _ _ _ _ _ _ _ _ _ _ _ _
   | exact matrix_Check.mono _ _
   | exact matrix_blank.mono _ _ _
   | exact LeO.none _
   | refine LeO.ite ?_ ?_
   | refine LeO.bind ?_ (fun _ => ?_)
def matrix_Mul.T17 : Bool × List (List Nat × List Nat) := (true, [([], []), ([], []), ([0, 1], [0, 1]), ([2], [2]), ([], []), ([3, 4], [3, 4]), ([5], [5]), ([], []), ([], []), ([], []), ([7, 8, 9], [7, 8, 9]), ([6, 10], [6, 10]), ([3, 4, 0, 1, 2, 3, 4, 5, 6, 7, 8, 9, 10, 11], [3, 4]), ([12, 11, 10, 0, 1, 2, 3, 4, 5, 6, 7, 8, 9, 10, 11], [11, 12])])
def matrix_Mul.B17 : List Nat := [0, 0, 3, 7, 0, 31, 63, 0, 0, 0, 896, 2047, 4095, 8191]
theorem matrix_Mul.tab17 : rtab .any (opsOf Try.f49 17) = matrix_Mul.T17 := by kernel_rfl
theorem matrix_Mul.bits17 : waitsOk matrix_Mul.T17.2 matrix_Mul.B17 = true := by kernel_rfl
set_option maxHeartbeats 8000000 in
set_option maxRecDepth 100000 in
theorem matrix_Mul.calls (k : Nat) (A0 : Option Addr) (c0 : Nat) (l0 : List (List Int)) (A1 : Option Addr) (c1 : Nat) (l1 : List (List Int)) (r1 : List (List Int)) (r2 : Int) (w : World) (hr0 : Kd.C (Kd.slice 5 (Kd.int .u8)) w A0 l0.length l0) (hc0 : l0.length ≤ c0) (hr1 : Kd.C (Kd.slice 5 (Kd.int .u8)) w A1 l1.length l1) (hc1 : l1.length ≤ c1) (h : matrix_Mul.f k l0 l1 = some (r1, r2)) :
  Calls Try.prog 49 #[.slice A0 l0.length c0, .slice A1 l1.length c1] w fun e w' => ∃ v0_ : Value, e = .returned (.tuple #[v0_, .int .i64 r2]) ∧ Kd.S (Kd.slice 5 (Kd.int .u8)) 22 w' w.heap.size (fun _ => True) v0_ r1 ∧ Below w.heap.size w w' := by
 have HR0 := Aside0.mk hr0
 have HC0 := Aside0.mk hc0
 clear hr0 hc0
 have HR1 := Aside0.mk hr1
 have HC1 := Aside0.mk hc1
 clear hr1 hc1
 have HB := Aside0.mk (Below.refl w.heap.size w)
 have H : ((matrix_Check.f k l0).bind fun t146 => (if t146 = 0 then ((matrix_Check.f k l1).bind fun t147 => (matrix_Mul.j0 k l0 l1 (t147 != 0))) else (matrix_Mul.j0 k l0 l1 true))) = some (r1, r2) := h
 clear h
 have HC3 := Aside0.mk H
 clear H
 go_enter Try.func49, Try.ntmps49
 go_upto_region 1 with (fail)
 go_cut [21] (fun v21 wc => ∃ (kq : Nat) (x21_2 : Bool), v21 = .bool x21_2 ∧ Aside0 (matrix_Mul.j0 kq l0 l1 x21_2 = some (r1, r2)) ∧ Aside0 (kq ≤ k) ∧ Aside0 (Below w.heap.size w wc))
 case first =>
  have H := HC3.out
  clear HC3
  replace H := Option.bind_eq_some_iff.mp H
  obtain ⟨t146, A40, H⟩ := H
  replace H : (if t146 = 0 then ((matrix_Check.f k l1).bind fun t147 => (matrix_Mul.j0 k l0 l1 (t147 != 0))) else (matrix_Mul.j0 k l0 l1 true)) = some (r1, r2) := H
  have A4 := Aside0.mk A40
  clear A40
  by_cases c5 : t146 = 0
  ·rw [if_pos c5] at H
   have c5b0 : (t146 == 0) = true := beq_iff_eq.mpr c5
   have c5b1 : (t146 != 0) = false := bne_eq_false_iff_eq.mpr c5
   clear c5
   (first | rw [c5b0] | (simp only [i64_w, i32_w]; rw [c5b0]) | skip)
   replace H := Option.bind_eq_some_iff.mp H
   obtain ⟨t147, A60, H⟩ := H
   replace H : (matrix_Mul.j0 k l0 l1 (t147 != 0)) = some (r1, r2) := H
   have A6 := Aside0.mk A60
   clear A60
   have H' := Aside0.mk H
   clear H
   go_wp2_with (first | ((with_reducible refine gate_callee (f := 67) rfl ?_); refine goesL_ (some 15) rfl rfl Try.func67 (by kernel_rfl) rfl #[.slice A0 l0.length c0] rfl (by (try simp only [List.map_toArray, List.map_cons, List.map_nil]); first | done | rfl | (simp only [tb_wrap8]; done) | (simp only [tb_wrap8]; rfl) | (simp only [List.length_drop, List.length_take]; rfl)) ?_; (with_reducible refine (matrix_Check.calls k _ _ l0 t146 _ ?side1 ?side2 A4.out).mono ?_); (case side1 => repeat (first | exact (Kd.C_below HR0.out HB.out) | (with_reducible refine Kd.C_alloc ?_ _) | (with_reducible refine Kd.C_drewN ?_ _) | (with_reducible refine Kd.C_drew ?_))); (case side2 => exact HC0.out); rintro e w' ⟨rfl, ⟨nd, rfl⟩⟩; refine ⟨_, rfl, ?_⟩) | (go_at_call 67; (with_reducible refine (matrix_Check.calls k _ _ l1 t147 _ ?side1 ?side2 A6.out).mono ?_); (case side1 => repeat (first | exact (Kd.C_below HR1.out (by repeat (first | (with_reducible first | exact HB.out | apply below_alloc | apply pw_below_drewN | apply below_drew1) | exact HB.out))) | (with_reducible refine Kd.C_alloc ?_ _) | (with_reducible refine Kd.C_drewN ?_ _) | (with_reducible refine Kd.C_drew ?_))); (case side2 => exact HC1.out); rintro e w' ⟨rfl, ⟨nd, rfl⟩⟩))
   go_meet
   case rel => exact ⟨_, ((t147 != 0)), (by first | rfl | (simp; done) | (simp [*]; done)), H', ⟨by first | omega | exact Nat.le_refl _⟩, ⟨by repeat (first | (with_reducible first | exact HB.out | apply below_alloc | apply pw_below_drewN | apply below_drew1) | exact HB.out)⟩⟩
  ·rw [if_neg c5] at H
   have c5b0 : (t146 == 0) = false := beq_eq_false_iff_ne.mpr c5
   have c5b1 : (t146 != 0) = true := bne_iff_ne.mpr c5
   (first | rw [c5b0] | (simp only [i64_w, i32_w]; rw [c5b0]) | skip)
   have H' := Aside0.mk H
   clear H
   go_wp2_with (first | ((with_reducible refine gate_callee (f := 67) rfl ?_); refine goesL_ (some 15) rfl rfl Try.func67 (by kernel_rfl) rfl #[.slice A0 l0.length c0] rfl (by (try simp only [List.map_toArray, List.map_cons, List.map_nil]); first | done | rfl | (simp only [tb_wrap8]; done) | (simp only [tb_wrap8]; rfl) | (simp only [List.length_drop, List.length_take]; rfl)) ?_; (with_reducible refine (matrix_Check.calls k _ _ l0 t146 _ ?side1 ?side2 A4.out).mono ?_); (case side1 => repeat (first | exact (Kd.C_below HR0.out HB.out) | (with_reducible refine Kd.C_alloc ?_ _) | (with_reducible refine Kd.C_drewN ?_ _) | (with_reducible refine Kd.C_drew ?_))); (case side2 => exact HC0.out); rintro e w' ⟨rfl, ⟨nd, rfl⟩⟩; refine ⟨_, rfl, ?_⟩))
   go_meet
   case rel => exact ⟨_, (true), (by first | rfl | (simp; done) | (simp [*]; done)), H', ⟨by first | omega | exact Nat.le_refl _⟩, ⟨by repeat (first | (with_reducible first | exact HB.out | apply below_alloc | apply pw_below_drewN | apply below_drew1) | exact HB.out)⟩⟩
 case rest =>
  clear HC3
  try clear c1
  try clear p2
  try clear c4
  try clear c5
  try clear c5b0
  try clear c5b1
  try clear c6
  obtain ⟨kq, x21_2, rfl, HA, HJ2, HB⟩ := hcut
  cases kq with
  | zero => exact absurd HA.out (by simp [matrix_Mul.j0])
  | succ kj2 =>
   have H := HA.out
   clear HA
   simp only [matrix_Mul.j0] at H
   by_cases c7 : x21_2 = true
   ·subst c7
    have H1 : (some (([] : List (List Int)), 100)) = some (r1, r2) := by rw [if_pos rfl] at H; exact H
    clear H
    have H := H1
    clear H1
    simp only [Option.some.injEq, Prod.mk.injEq] at H
    obtain ⟨rfl, rfl⟩ := H
    go_wp2
    go_ret2
    exact ⟨_, by first | rfl | (simp [errW_none, errW_some] <;> rfl) | (simp [*, errW_none, errW_some] <;> rfl), by first | exact Kd.S_nil _ _ _ _ _ | exact Kd.N_nil _ _ _ _ _ | exact Kd.V_nil _ _ _ _ _ | exact Kd.Q_nil _ _ _ _ _ | exact Kd.R_nil _ _ _ _ _, by repeat (first | (with_reducible first | exact HB.out | apply below_alloc | apply pw_below_drewN | apply below_drew1) | exact HB.out)⟩
   ·replace c7 := Bool.eq_false_iff.mpr c7
    subst c7
    have H1 : (if 0 < (l0.length : Int) then (if ((rd_L1 l0 0).length : Int) = (l1.length : Int) then ((gf8_New.f).bind fun _ => (if 0 < (l1.length : Int) then ((matrix_blank.f kj2 (l0.length : Int) ((rd_L1 l1 0).length : Int)).bind fun t151 => (matrix_Mul.l0 kj2 l1 t151 l0 (l0.length : Int) 0)) else (none))) else (some (([] : List (List Int)), 101))) else (none)) = some (r1, r2) := by rw [if_neg (show ¬ (false = true) by decide)] at H; exact H
    clear H
    have H := H1
    clear H1
    by_cases c8 : 0 < (l0.length : Int)
    ·rw [if_pos c8] at H
     have c8b0 : decide (0 < (l0.length : Int)) = true := decide_eq_true c8
     have c8b1 : decide (0 < l0.length) = true := decide_eq_true (by omega)
     clear c8
     by_cases c9 : ((rd_L1 l0 0).length : Int) = (l1.length : Int)
     ·rw [if_pos c9] at H
      have c9b0 : (((rd_L1 l0 0).length : Int) == (l1.length : Int)) = true := beq_iff_eq.mpr c9
      have c9b1 : (((rd_L1 l0 0).length : Int) != (l1.length : Int)) = false := bne_eq_false_iff_eq.mpr c9
      have c9b2 : ((rd_L1 l0 0).length == l1.length) = true := by first | simpa using c9 | (simp at c9 ⊢; omega)
      clear c9
      replace H := Option.bind_eq_some_iff.mp H
      obtain ⟨_, A100, H⟩ := H
      replace H : (if 0 < (l1.length : Int) then ((matrix_blank.f kj2 (l0.length : Int) ((rd_L1 l1 0).length : Int)).bind fun t151 => (matrix_Mul.l0 kj2 l1 t151 l0 (l0.length : Int) 0)) else (none)) = some (r1, r2) := H
      have A10 := Aside0.mk A100
      clear A100
      by_cases c11 : 0 < (l1.length : Int)
      ·rw [if_pos c11] at H
       have c11b0 : decide (0 < (l1.length : Int)) = true := decide_eq_true c11
       have c11b1 : decide (0 < l1.length) = true := decide_eq_true (by omega)
       clear c11
       replace H := Option.bind_eq_some_iff.mp H
       obtain ⟨t151, A120, H⟩ := H
       replace H : (matrix_Mul.l0 kj2 l1 t151 l0 (l0.length : Int) 0) = some (r1, r2) := H
       have A12 := Aside0.mk A120
       clear A120
       have H' := Aside0.mk H
       clear H
       have p148 : 0 ≤ (0 : Int) := (by omega)
       have q148 : 0 < (l0.length : Int) := of_decide_eq_true (by first | (with_reducible assumption) | assumption)
       obtain ⟨ad148, A148_0, c148_0, e148, hx148_0, hl148_0, hi148_0⟩ := at_L1 HR0.out 0 p148 q148
       cases e148
       have qi148 : (0 < l0.length) = True := eq_true (by omega)
       (try rw [show ((0 : Int)).toNat = 0 from rfl] at hx148_0)
       (try rw [Addr.add_zero'] at hx148_0)
       replace hx148_0 := (HB.out.cell (World.block_lt_of_cell? w _ hx148_0)).trans hx148_0
       have HR148_0 := Aside0.mk hi148_0
       have HC148_0 := Aside0.mk hl148_0
       clear hi148_0 hl148_0
       replace p148 := eq_true p148
       replace q148 := eq_true q148
       go_wp2_with (first | ((with_reducible refine gate_callee (f := 64) rfl ?_); refine goesL_ (some 29) rfl rfl Try.func64 (by kernel_rfl) rfl #[] rfl (by (try simp only [List.map_toArray, List.map_cons, List.map_nil]); first | done | rfl | (simp only [tb_wrap8]; done) | (simp only [tb_wrap8]; rfl) | (simp only [List.length_drop, List.length_take]; rfl)) ?_; (with_reducible refine (gf8_New.calls   w _ ?side1 A10.out).mono ?_); (case side1 => repeat (first | (with_reducible first | exact HB.out | apply below_alloc | apply pw_below_drewN | apply below_drew1) | exact HB.out)); rintro e w13 ⟨g149, rfl, hi, hb, hb2⟩; refine ⟨_, rfl, ?_⟩; have n0_ := Aside0.mk (hb); have n1_ := Aside0.mk (hi); clear HB; have HB := n0_; have HI149 := n1_; clear n0_ n1_; (try clear hb); (try clear hb2); (try clear hk); (try clear hi); have p150 : 0 ≤ (0 : Int) := (by omega); have q150 : 0 < (l1.length : Int) := of_decide_eq_true (by first | (with_reducible assumption) | assumption); obtain ⟨ad150, A150_0, c150_0, e150, hx150_0, hl150_0, hi150_0⟩ := at_L1 HR1.out 0 p150 q150; cases e150; have qi150 : (0 < l1.length) = True := eq_true (by omega); (try rw [show ((0 : Int)).toNat = 0 from rfl] at hx150_0); (try rw [Addr.add_zero'] at hx150_0); replace hx150_0 := (HB.out.cell (World.block_lt_of_cell? w _ hx150_0)).trans hx150_0; have HR150_0 := Aside0.mk hi150_0; have HC150_0 := Aside0.mk hl150_0; clear hi150_0 hl150_0; replace p150 := eq_true p150; replace q150 := eq_true q150) | ((with_reducible refine gate_callee (f := 65) rfl ?_); refine goesL_ (some 36) rfl rfl Try.func65 (by kernel_rfl) rfl #[.int .i64 (l0.length : Int), .int .i64 ((rd_L1 l1 0).length : Int)] rfl (by (try simp only [List.map_toArray, List.map_cons, List.map_nil]); first | done | rfl | (simp only [tb_wrap8]; done) | (simp only [tb_wrap8]; rfl) | (simp only [List.length_drop, List.length_take]; rfl)) ?_; (with_reducible refine (matrix_blank.calls kj2 (l0.length : Int) ((rd_L1 l1 0).length : Int) t151 _ A12.out).mono ?_); rintro e w14 ⟨v152, rfl, ho0, hb⟩; refine ⟨_, rfl, ?_⟩; have n0_ := Aside0.mk (Kd.S_lower ho0 (below_size (by repeat (first | (with_reducible first | exact HB.out | apply below_alloc | apply pw_below_drewN | apply below_drew1 | refine below_set ?_ (IsS125.ge HI149.out)) | exact HB.out)))); have n1_ := Aside0.mk (IsS125.below (by repeat (first | (with_reducible first | exact HI149.out | apply IsS125.alloc | apply IsS125.drewN | apply IsS125.drew) | exact HI149.out)) hb); have n2_ := Aside0.mk (below_step (by repeat (first | (with_reducible first | exact HB.out | apply below_alloc | apply pw_below_drewN | apply below_drew1 | refine below_set ?_ (IsS125.ge HI149.out)) | exact HB.out)) hb); clear HI149; clear HB; have HO153 := n0_; have HI149 := n1_; have HB := n2_; clear n0_ n1_ n2_; (try clear hb); (try clear hb2); (try clear hk); (try clear hi); (try clear ho0)))
       go_loopg [39] kj2 (fun kq v39 w' => ∃ (x7_2 : List (List Int)) (x39_2 : Int), v39 = .int .i64 x39_2 ∧ Aside0 (matrix_Mul.l0 kq l1 x7_2 l0 (l0.length : Int) x39_2 = some (r1, r2)) ∧ Aside0 (kq ≤ kj2) ∧ Aside0 (Kd.S (Kd.slice 5 (Kd.int .u8)) 22 w' w.heap.size (fun _ => True) v152 x7_2) ∧ Aside0 (IsS125 w w' g149 ) ∧ Aside0 (Below w.heap.size w w'))
       case atStart => exact ⟨(t151), (0), (by first | rfl | (simp; done) | (simp [*]; done)), H', ⟨Nat.le_refl _⟩, ⟨by (with_reducible repeat (first | apply Kd.S_alloc | apply Kd.S_drewN | apply Kd.S_drew)); exact HO153.out⟩, ⟨by repeat (first | (with_reducible first | exact HI149.out | apply IsS125.alloc | apply IsS125.drewN | apply IsS125.drew) | exact HI149.out)⟩, ⟨by repeat (first | (with_reducible first | exact HB.out | apply below_alloc | apply pw_below_drewN | apply below_drew1 | refine below_set ?_ (IsS125.ge HI149.out)) | exact HB.out)⟩⟩
       case round =>
        clear H'
        try clear c1
        try clear p1
        try clear q1
        try clear hx1
        try clear qi1
        try clear p2
        try clear c4
        try clear c5
        try clear c5b0
        try clear c5b1
        try clear c6
        try clear c7
        try clear c8
        try clear c8b0
        try clear c8b1
        try clear p8
        try clear c9
        try clear c9b0
        try clear c9b1
        try clear c9b2
        try clear c11
        try clear c11b0
        try clear c11b1
        try clear c14
        try clear p14
        try clear q14
        try clear hx14
        try clear qi14
        try clear hx148_0
        try clear hx150_0
        try clear p148
        try clear p150
        try clear p2
        try clear q148
        try clear q150
        obtain ⟨x7_2, x39_2, rfl, HA, HK2, HO_7, HI149, HB⟩ := hrel
        cases gk with
        | zero => exact absurd HA.out (by simp [matrix_Mul.l0])
        | succ k2 =>
         have H := HA.out
         clear HA
         simp only [matrix_Mul.l0] at H
         by_cases c15 : x39_2 < (l0.length : Int)
         ·rw [if_pos c15] at H
          have c15b0 : decide (x39_2 < (l0.length : Int)) = true := decide_eq_true c15
          clear c15
          by_cases c16 : 0 ≤ x39_2
          ·rw [if_pos c16] at H
           have c16b0 : decide (0 ≤ x39_2) = true := decide_eq_true c16
           clear c16
           by_cases c17 : x39_2 < (l0.length : Int)
           ·rw [if_pos c17] at H
            have c17b0 : decide (x39_2 < (l0.length : Int)) = true := decide_eq_true c17
            clear c17
            have H' := Aside0.mk H
            clear H
            have p154 : 0 ≤ (x39_2 : Int) := of_decide_eq_true (by first | (with_reducible assumption) | assumption)
            have q154 : x39_2 < (l0.length : Int) := of_decide_eq_true (by first | (with_reducible assumption) | assumption)
            obtain ⟨ad154, A154_0, c154_0, e154, hx154_0, hl154_0, hi154_0⟩ := at_L1 HR0.out x39_2 p154 q154
            obtain rfl : ad148 = ad154 := (by injection e154)
            replace hx154_0 := (HB.out.cell (World.block_lt_of_cell? w _ hx154_0)).trans hx154_0
            have HR154_0 := Aside0.mk hi154_0
            have HC154_0 := Aside0.mk hl154_0
            clear hi154_0 hl154_0
            replace p154 := eq_true p154
            replace q154 := eq_true q154
            go_wp2
            go_loopg [46] k2 (fun kq v46 w' => ∃ (x7_3 : List (List Int)) (x46_3 : Int), v46 = .int .i64 x46_3 ∧ Aside0 (matrix_Mul.l1 kq l1 x7_3 x39_2 l0 (l0.length : Int) x39_2 (rd_L1 l0 x39_2) ((rd_L1 l0 x39_2).length : Int) x46_3 = some (r1, r2)) ∧ Aside0 (kq ≤ k2) ∧ Aside0 (Kd.S (Kd.slice 5 (Kd.int .u8)) 22 w' w.heap.size (fun _ => True) v152 x7_3) ∧ Aside0 (IsS125 w w' g149 ) ∧ Aside0 (Below w.heap.size w w'))
            case atStart => exact ⟨(x7_2), (0), (by first | rfl | (simp; done) | (simp [*]; done)), H', ⟨Nat.le_refl _⟩, ⟨by (with_reducible repeat (first | apply Kd.S_alloc | apply Kd.S_drewN | apply Kd.S_drew)); exact HO_7.out⟩, ⟨by repeat (first | (with_reducible first | exact HI149.out | apply IsS125.alloc | apply IsS125.drewN | apply IsS125.drew) | exact HI149.out)⟩, ⟨by repeat (first | (with_reducible first | exact HB.out | apply below_alloc | apply pw_below_drewN | apply below_drew1 | refine below_set ?_ (IsS125.ge HI149.out)) | exact HB.out)⟩⟩
            case round =>
             clear H'
             try clear c1
             try clear p1
             try clear q1
             try clear hx1
             try clear qi1
             try clear p2
             try clear c4
             try clear c5
             try clear c5b0
             try clear c5b1
             try clear c6
             try clear c7
             try clear c8
             try clear c8b0
             try clear c8b1
             try clear p8
             try clear c9
             try clear c9b0
             try clear c9b1
             try clear c9b2
             try clear c11
             try clear c11b0
             try clear c11b1
             try clear c14
             try clear p14
             try clear q14
             try clear hx14
             try clear qi14
             try clear c15
             try clear c15b0
             try clear p15
             try clear q15
             try clear hx15
             try clear qi15
             try clear c16
             try clear c16b0
             try clear c17
             try clear c17b0
             try clear hx148_0
             try clear hx150_0
             try clear hx154_0
             try clear p1
             try clear p14
             try clear p148
             try clear p150
             try clear p154
             try clear p2
             try clear p8
             try clear q1
             try clear q14
             try clear q148
             try clear q150
             try clear q154
             obtain ⟨x7_3, x46_3, rfl, HA, HK3, HO_7, HI149, HB⟩ := hrel
             cases gk with
             | zero => exact absurd HA.out (by simp [matrix_Mul.l1])
             | succ k3 =>
              have H := HA.out
              clear HA
              simp only [matrix_Mul.l1] at H
              by_cases c18 : x46_3 < ((rd_L1 l0 x39_2).length : Int)
              ·rw [if_pos c18] at H
               have c18b0 : decide (x46_3 < ((rd_L1 l0 x39_2).length : Int)) = true := decide_eq_true c18
               clear c18
               by_cases c19 : 0 ≤ x46_3
               ·rw [if_pos c19] at H
                have c19b0 : decide (0 ≤ x46_3) = true := decide_eq_true c19
                clear c19
                by_cases c20 : x46_3 < ((rd_L1 l0 x39_2).length : Int)
                ·rw [if_pos c20] at H
                 have c20b0 : decide (x46_3 < ((rd_L1 l0 x39_2).length : Int)) = true := decide_eq_true c20
                 clear c20
                 by_cases c21 : (rd (rd_L1 l0 x39_2) x46_3) = 0
                 ·rw [if_pos c21] at H
                  have c21b0 : ((rd (rd_L1 l0 x39_2) x46_3) == 0) = true := beq_iff_eq.mpr c21
                  have c21b1 : ((rd (rd_L1 l0 x39_2) x46_3) != 0) = false := bne_eq_false_iff_eq.mpr c21
                  clear c21
                  have H' := Aside0.mk H
                  clear H
                  have p155 : 0 ≤ (x46_3 : Int) := of_decide_eq_true (by first | (with_reducible assumption) | assumption)
                  have q155 : x46_3 < ((rd_L1 l0 x39_2).length : Int) := of_decide_eq_true (by first | (with_reducible assumption) | assumption)
                  obtain ⟨ad155, e155, hx155_0⟩ := Kd.at_int HR154_0.out x46_3 p155 q155
                  cases e155
                  replace hx155_0 := (HB.out.cell (World.block_lt_of_cell? w _ hx155_0)).trans hx155_0
                  replace p155 := eq_true p155
                  replace q155 := eq_true q155
                  go_wp2
                  go_roundg k3
                  case measure => have := HJ2.out; have := HK2.out; have := HK3.out; omega
                  case rel => exact ⟨(x7_3), (wrap64 (x46_3 + 1)), (by first | rfl | (simp; done) | (simp [*]; done)), H', ⟨by have := HJ2.out; have := HK2.out; have := HK3.out; omega⟩, ⟨by (with_reducible repeat (first | apply Kd.S_alloc | apply Kd.S_drewN | apply Kd.S_drew)); exact HO_7.out⟩, ⟨by repeat (first | (with_reducible first | exact HI149.out | apply IsS125.alloc | apply IsS125.drewN | apply IsS125.drew) | exact HI149.out)⟩, ⟨by repeat (first | (with_reducible first | exact HB.out | apply below_alloc | apply pw_below_drewN | apply below_drew1 | refine below_set ?_ (IsS125.ge HI149.out)) | exact HB.out)⟩⟩
                 ·rw [if_neg c21] at H
                  have c21b0 : ((rd (rd_L1 l0 x39_2) x46_3) == 0) = false := beq_eq_false_iff_ne.mpr c21
                  have c21b1 : ((rd (rd_L1 l0 x39_2) x46_3) != 0) = true := bne_iff_ne.mpr c21
                  by_cases c22 : x46_3 < (l1.length : Int)
                  ·rw [if_pos c22] at H
                   have c22b0 : decide (x46_3 < (l1.length : Int)) = true := decide_eq_true c22
                   clear c22
                   have H' := Aside0.mk H
                   clear H
                   have p155 : 0 ≤ (x46_3 : Int) := of_decide_eq_true (by first | (with_reducible assumption) | assumption)
                   have q155 : x46_3 < ((rd_L1 l0 x39_2).length : Int) := of_decide_eq_true (by first | (with_reducible assumption) | assumption)
                   obtain ⟨ad155, e155, hx155_0⟩ := Kd.at_int HR154_0.out x46_3 p155 q155
                   cases e155
                   replace hx155_0 := (HB.out.cell (World.block_lt_of_cell? w _ hx155_0)).trans hx155_0
                   replace p155 := eq_true p155
                   replace q155 := eq_true q155
                   have p156 : 0 ≤ (x46_3 : Int) := of_decide_eq_true (by first | (with_reducible assumption) | assumption)
                   have q156 : x46_3 < (l1.length : Int) := of_decide_eq_true (by first | (with_reducible assumption) | assumption)
                   obtain ⟨ad156, A156_0, c156_0, e156, hx156_0, hl156_0, hi156_0⟩ := at_L1 HR1.out x46_3 p156 q156
                   obtain rfl : ad150 = ad156 := (by injection e156)
                   replace hx156_0 := (HB.out.cell (World.block_lt_of_cell? w _ hx156_0)).trans hx156_0
                   have HR156_0 := Aside0.mk hi156_0
                   have HC156_0 := Aside0.mk hl156_0
                   clear hi156_0 hl156_0
                   replace p156 := eq_true p156
                   replace q156 := eq_true q156
                   go_wp2
                   go_loopg [58] k3 (fun kq v58 w' => ∃ (x7_4 : List (List Int)) (x58_4 : Int), v58 = .int .i64 x58_4 ∧ Aside0 (matrix_Mul.l2 kq l1 x7_4 x39_2 (rd (rd_L1 l0 x39_2) x46_3) l0 (l0.length : Int) x39_2 (rd_L1 l0 x39_2) ((rd_L1 l0 x39_2).length : Int) x46_3 (rd_L1 l1 x46_3) ((rd_L1 l1 x46_3).length : Int) x58_4 = some (r1, r2)) ∧ Aside0 (kq ≤ k3) ∧ Aside0 (Kd.S (Kd.slice 5 (Kd.int .u8)) 22 w' w.heap.size (fun _ => True) v152 x7_4) ∧ Aside0 (IsS125 w w' g149 ) ∧ Aside0 (Below w.heap.size w w'))
                   case atStart => exact ⟨(x7_3), (0), (by first | rfl | (simp; done) | (simp [*]; done)), H', ⟨Nat.le_refl _⟩, ⟨by (with_reducible repeat (first | apply Kd.S_alloc | apply Kd.S_drewN | apply Kd.S_drew)); exact HO_7.out⟩, ⟨by repeat (first | (with_reducible first | exact HI149.out | apply IsS125.alloc | apply IsS125.drewN | apply IsS125.drew) | exact HI149.out)⟩, ⟨by repeat (first | (with_reducible first | exact HB.out | apply below_alloc | apply pw_below_drewN | apply below_drew1 | refine below_set ?_ (IsS125.ge HI149.out)) | exact HB.out)⟩⟩
                   case round =>
                    clear H'
                    try clear c1
                    try clear p1
                    try clear q1
                    try clear hx1
                    try clear qi1
                    try clear c2
                    try clear p2
                    try clear c4
                    try clear c5
                    try clear c5b0
                    try clear c5b1
                    try clear c6
                    try clear p6
                    try clear c7
                    try clear c8
                    try clear c8b0
                    try clear c8b1
                    try clear p8
                    try clear c9
                    try clear c9b0
                    try clear c9b1
                    try clear c9b2
                    try clear c11
                    try clear c11b0
                    try clear c11b1
                    try clear c14
                    try clear p14
                    try clear q14
                    try clear hx14
                    try clear qi14
                    try clear c15
                    try clear c15b0
                    try clear p15
                    try clear q15
                    try clear hx15
                    try clear qi15
                    try clear c16
                    try clear c16b0
                    try clear c17
                    try clear c17b0
                    try clear c18
                    try clear c18b0
                    try clear c19
                    try clear c19b0
                    try clear c20
                    try clear c20b0
                    try clear c21
                    try clear c21b0
                    try clear c21b1
                    try clear c22
                    try clear c22b0
                    try clear hx148_0
                    try clear hx150_0
                    try clear hx154_0
                    try clear hx155_0
                    try clear hx156_0
                    try clear p1
                    try clear p14
                    try clear p148
                    try clear p15
                    try clear p150
                    try clear p154
                    try clear p155
                    try clear p156
                    try clear p2
                    try clear p8
                    try clear q1
                    try clear q14
                    try clear q148
                    try clear q15
                    try clear q150
                    try clear q154
                    try clear q155
                    try clear q156
                    obtain ⟨x7_4, x58_4, rfl, HA, HK4, HO_7, HI149, HB⟩ := hrel
                    cases gk with
                    | zero => exact absurd HA.out (by simp [matrix_Mul.l2])
                    | succ k4 =>
                     have H := HA.out
                     clear HA
                     simp only [matrix_Mul.l2] at H
                     by_cases c23 : x58_4 < ((rd_L1 l1 x46_3).length : Int)
                     ·rw [if_pos c23] at H
                      have c23b0 : decide (x58_4 < ((rd_L1 l1 x46_3).length : Int)) = true := decide_eq_true c23
                      clear c23
                      by_cases c24 : 0 ≤ x58_4
                      ·rw [if_pos c24] at H
                       have c24b0 : decide (0 ≤ x58_4) = true := decide_eq_true c24
                       clear c24
                       by_cases c25 : x58_4 < ((rd_L1 l1 x46_3).length : Int)
                       ·rw [if_pos c25] at H
                        have c25b0 : decide (x58_4 < ((rd_L1 l1 x46_3).length : Int)) = true := decide_eq_true c25
                        clear c25
                        by_cases c26 : 0 ≤ x39_2
                        ·rw [if_pos c26] at H
                         have c26b0 : decide (0 ≤ x39_2) = true := decide_eq_true c26
                         clear c26
                         by_cases c27 : x39_2 < (x7_4.length : Int)
                         ·rw [if_pos c27] at H
                          have c27b0 : decide (x39_2 < (x7_4.length : Int)) = true := decide_eq_true c27
                          clear c27
                          by_cases c28 : x58_4 < ((rd_L1 x7_4 x39_2).length : Int)
                          ·rw [if_pos c28] at H
                           have c28b0 : decide (x58_4 < ((rd_L1 x7_4 x39_2).length : Int)) = true := decide_eq_true c28
                           clear c28
                           replace H := Option.bind_eq_some_iff.mp H
                           obtain ⟨t160, A290, H⟩ := H
                           replace H : (matrix_Mul.l2 k4 l1 (x7_4.set (x39_2 : Int).toNat ((rd_L1 x7_4 x39_2).set (x58_4 : Int).toNat (Go.bits .xor .u8 (rd (rd_L1 x7_4 x39_2) x58_4) t160))) x39_2 (rd (rd_L1 l0 x39_2) x46_3) l0 (l0.length : Int) x39_2 (rd_L1 l0 x39_2) ((rd_L1 l0 x39_2).length : Int) x46_3 (rd_L1 l1 x46_3) ((rd_L1 l1 x46_3).length : Int) (wrap64 (x58_4 + 1))) = some (r1, r2) := H
                           have A29 := Aside0.mk A290
                           clear A290
                           obtain ⟨y161, hy161⟩ : ∃ y_ : List Int, y_ = ((rd_L1 x7_4 x39_2).set (x58_4 : Int).toNat (Go.bits .xor .u8 (rd (rd_L1 x7_4 x39_2) x58_4) t160)) := ⟨_, rfl⟩
                           replace H : (matrix_Mul.l2 k4 l1 (x7_4.set (x39_2 : Int).toNat y161) x39_2 (rd (rd_L1 l0 x39_2) x46_3) l0 (l0.length : Int) x39_2 (rd_L1 l0 x39_2) ((rd_L1 l0 x39_2).length : Int) x46_3 (rd_L1 l1 x46_3) ((rd_L1 l1 x46_3).length : Int) (wrap64 (x58_4 + 1))) = some (r1, r2) := by first | (rw [hy161]; with_reducible exact H) | (have H2_ := (Option.bind_some _ _).symm.trans H; rw [hy161]; with_reducible exact H2_) | (have H2_ := (Option.bind_some _ _).symm.trans H; with_reducible exact H2_) | with_reducible exact H | (rw [hy161]; exact H) | exact H
                           have Ny161 := Aside0.mk hy161
                           clear hy161
                           obtain ⟨y163, hy163⟩ : ∃ y_ : List (List Int), y_ = (x7_4.set (x39_2 : Int).toNat y161) := ⟨_, rfl⟩
                           replace H : (matrix_Mul.l2 k4 l1 y163 x39_2 (rd (rd_L1 l0 x39_2) x46_3) l0 (l0.length : Int) x39_2 (rd_L1 l0 x39_2) ((rd_L1 l0 x39_2).length : Int) x46_3 (rd_L1 l1 x46_3) ((rd_L1 l1 x46_3).length : Int) (wrap64 (x58_4 + 1))) = some (r1, r2) := by first | (rw [hy163]; with_reducible exact H) | (have H2_ := (Option.bind_some _ _).symm.trans H; rw [hy163]; with_reducible exact H2_) | (have H2_ := (Option.bind_some _ _).symm.trans H; with_reducible exact H2_) | with_reducible exact H | (rw [hy163]; exact H) | exact H
                           have Ny163 := Aside0.mk hy163
                           clear hy163
                           have H' := Aside0.mk H
                           clear H
                           have p157 : 0 ≤ (x58_4 : Int) := of_decide_eq_true (by first | (with_reducible assumption) | assumption)
                           have q157 : x58_4 < ((rd_L1 l1 x46_3).length : Int) := of_decide_eq_true (by first | (with_reducible assumption) | assumption)
                           obtain ⟨ad157, e157, hx157_0⟩ := Kd.at_int HR156_0.out x58_4 p157 q157
                           cases e157
                           replace hx157_0 := (HB.out.cell (World.block_lt_of_cell? w _ hx157_0)).trans hx157_0
                           replace p157 := eq_true p157
                           replace q157 := eq_true q157
                           try go_wp2
                           have n0_ := Aside0.mk (Kd.S_drew HO_7.out)
                           have n1_ := Aside0.mk (IsS125.drew HI149.out)
                           have n2_ := Aside0.mk (below_drew1 HB.out)
                           clear HO_7
                           clear HI149
                           clear HB
                           have HO_7 := n0_
                           have HI149 := n1_
                           have HB := n2_
                           clear n0_ n1_ n2_
                           obtain ⟨Ao32, co32, eo32⟩ := Kd.S_slice HO_7.out
                           (first | subst eo32 | (injection eo32 with f1_ f2_ f3_; have f4_ := f1_.symm; have f5_ := f3_.symm; clear f1_ f2_ f3_; subst f4_; subst f5_))
                           have p158 : 0 ≤ (x39_2 : Int) := of_decide_eq_true (by first | (with_reducible assumption) | assumption)
                           have q158 : x39_2 < (x7_4.length : Int) := of_decide_eq_true (by first | (with_reducible assumption) | assumption)
                           obtain ⟨ad158, A158_0, c158_0, e158, hx158_0, hl158_0, hi158_0⟩ := at_L1 (Kd.S_reads' HO_7.out).2.2 x39_2 p158 q158
                           cases e158
                           obtain ⟨ce158, hce158, hMe158, hcc158⟩ := Kd.S_get HO_7.out [] x39_2 p158 (by first | exact q158 | exact of_decide_eq_true (by first | (with_reducible assumption) | assumption) | (have e_ := (Kd.S_reads' HO_7.out).1; omega))
                           obtain ⟨ve158_0, rfl, ge158_0⟩ := hMe158
                           have hv158_0 := hcc158 0 _ rfl
                           rw [Nat.add_zero, show ((Kd.slice 5 (Kd.int .u8))).sz = 1 from rfl, Nat.mul_one] at hv158_0
                           replace hv158_0 := Option.some.inj (hv158_0.symm.trans hx158_0)
                           rw [hv158_0] at ge158_0
                           have HL158_0 := Aside0.mk (show Kd.R (Kd.int .u8) 5 _ _ _ _ (rd_L1 x7_4 x39_2) from ge158_0)
                           clear hv158_0 ge158_0
                           have HX158_0 := Aside0.mk hx158_0
                           clear hcc158 hce158
                           have HR158_0 := Aside0.mk hi158_0
                           have HC158_0 := Aside0.mk hl158_0
                           clear hi158_0 hl158_0
                           replace p158 := eq_true p158
                           replace q158 := eq_true q158
                           have p159 : 0 ≤ (x58_4 : Int) := of_decide_eq_true (by first | (with_reducible assumption) | assumption)
                           have q159 : x58_4 < ((rd_L1 x7_4 x39_2).length : Int) := of_decide_eq_true (by first | (with_reducible assumption) | assumption)
                           obtain ⟨ad159, e159, hx159_0⟩ := Kd.at_int (by repeat (first | (with_reducible exact HR158_0.out) | (with_reducible refine Kd.C_alloc ?_ _) | (with_reducible refine Kd.C_drewN ?_ _) | (with_reducible refine Kd.C_drew ?_) | exact HR158_0.out)) x58_4 p159 q159
                           cases e159
                           replace p159 := eq_true p159
                           replace q159 := eq_true q159
                           refine start_ (n := 14) (S := fun w' => w'.cell? (ad158.add (x39_2).toNat) = some (.slice (some ad159) (rd_L1 x7_4 x39_2).length c158_0) ∧ w'.cell? (ad159.add (x58_4).toNat) = some (.int .u8 (rd (rd_L1 x7_4 x39_2) x58_4))) (ds := [13]) #[false, false, false, false, false, false, false, false, false, false, false, false, false, false] (by kernel_rfl) rfl rfl ⟨hx158_0, hx159_0⟩ (fun hHeld => ?_); refine with_tabW matrix_Mul.tab17 matrix_Mul.bits17 (fun HT_ HW_ => ?_)
                           generalize wr.drew = w31 at HO_7 HI149 HB HL158_0 HR158_0 HX158_0 hx158_0 hx159_0 hHeld ⊢
                           refine pure_ (i := 0) (N := some 63) (v := ?_) (a' := ?_) #[true, false, false, false, false, false, false, false, false, false, false, false, false, false] rfl rfl (any_of HT_.out (by kernel_rfl)) (fun _ _ _ h => h) (Or.inl ⟨by rfl, ?_⟩) ?_ ?_
                           rotate_left
                           ·intro w'
                            go_simp
                            with_reducible rfl
                           rotate_left
                           ·simp only [Act.put, List.setIfInBounds_toArray, List.set_cons_zero, List.set_cons_succ, i64_w, i32_w]
                            rfl
                           refine pure_ (i := 1) (N := some 64) (v := ?_) (a' := ?_) #[true, true, false, false, false, false, false, false, false, false, false, false, false, false] rfl rfl (any_of HT_.out (by kernel_rfl)) (fun _ _ _ h => h) (Or.inl ⟨by rfl, ?_⟩) ?_ ?_
                           rotate_left
                           ·intro w'
                            go_simp
                            with_reducible rfl
                           rotate_left
                           ·simp only [Act.put, List.setIfInBounds_toArray, List.set_cons_zero, List.set_cons_succ, i64_w, i32_w]
                            rfl
                           refine pure_ (i := 2) (N := some 65) (v := ?_) (a' := ?_) #[true, true, true, false, false, false, false, false, false, false, false, false, false, false] rfl rfl (any_of HT_.out (by kernel_rfl)) (fun _ _ _ h => h) (Or.inl ⟨by rfl, ?_⟩) ?_ ?_
                           rotate_left
                           ·intro w'
                            go_simp
                            with_reducible rfl
                           rotate_left
                           ·simp only [Act.put, List.setIfInBounds_toArray, List.set_cons_zero, List.set_cons_succ, i64_w, i32_w]
                            rfl
                           refine pure_ (i := 4) (N := some 67) (v := ?_) (a' := ?_) #[true, true, true, false, true, false, false, false, false, false, false, false, false, false] rfl rfl (any_of HT_.out (by kernel_rfl)) (fun _ _ _ h => h) (Or.inl ⟨by rfl, ?_⟩) ?_ ?_
                           rotate_left
                           ·intro w'
                            go_simp
                            with_reducible rfl
                           rotate_left
                           ·simp only [Act.put, List.setIfInBounds_toArray, List.set_cons_zero, List.set_cons_succ, i64_w, i32_w]
                            rfl
                           refine pure_ (i := 7) (N := some 70) (v := ?_) (a' := ?_) #[true, true, true, false, true, false, false, true, false, false, false, false, false, false] rfl rfl (any_of HT_.out (by kernel_rfl)) (fun _ _ _ h => h) (Or.inl ⟨by rfl, ?_⟩) ?_ ?_
                           rotate_left
                           ·intro w'
                            go_simp
                            with_reducible rfl
                           rotate_left
                           ·simp only [Act.put, List.setIfInBounds_toArray, List.set_cons_zero, List.set_cons_succ, i64_w, i32_w]
                            rfl
                           refine pure_ (i := 8) (N := some 71) (v := ?_) (a' := ?_) #[true, true, true, false, true, false, false, true, true, false, false, false, false, false] rfl rfl (any_of HT_.out (by kernel_rfl)) (fun _ _ _ h => h) (Or.inl ⟨by rfl, ?_⟩) ?_ ?_
                           rotate_left
                           ·intro w'
                            go_simp
                            with_reducible rfl
                           rotate_left
                           ·simp only [Act.put, List.setIfInBounds_toArray, List.set_cons_zero, List.set_cons_succ, i64_w, i32_w]
                            rfl
                           refine pure_ (i := 9) (N := some 72) (v := ?_) (a' := ?_) #[true, true, true, false, true, false, false, true, true, true, false, false, false, false] rfl rfl (any_of HT_.out (by kernel_rfl)) (fun _ _ _ h => h) (Or.inl ⟨by rfl, ?_⟩) ?_ ?_
                           rotate_left
                           ·intro w'
                            go_simp
                            with_reducible rfl
                           rotate_left
                           ·simp only [Act.put, List.setIfInBounds_toArray, List.set_cons_zero, List.set_cons_succ, i64_w, i32_w]
                            rfl
                           refine take_ (i := 3) (N := some 66) (v := ?_) (a' := ?_) #[true, true, true, true, true, false, false, true, true, true, false, false, false, false] rfl rfl (take_ofW HT_.out HW_.out (by kernel_rfl)) (fun _ _ _ h => h) (Or.inl ⟨by rfl, ?_⟩) hHeld ?_ ?_
                           rotate_left
                           ·rintro w' ⟨s0, s1⟩
                            go_simp
                            with_reducible rfl
                           rotate_left
                           ·simp only [Act.put, List.setIfInBounds_toArray, List.set_cons_zero, List.set_cons_succ, i64_w, i32_w]
                            rfl
                           refine pure_ (i := 5) (N := some 68) (v := ?_) (a' := ?_) #[true, true, true, true, true, true, false, true, true, true, false, false, false, false] rfl rfl (any_of HT_.out (by kernel_rfl)) (fun _ _ _ h => h) (Or.inl ⟨by rfl, ?_⟩) ?_ ?_
                           rotate_left
                           ·intro w'
                            go_simp
                            with_reducible rfl
                           rotate_left
                           ·simp only [Act.put, List.setIfInBounds_toArray, List.set_cons_zero, List.set_cons_succ, i64_w, i32_w]
                            rfl
                           refine take_ (i := 6) (N := some 69) (v := ?_) (a' := ?_) #[true, true, true, true, true, true, true, true, true, true, false, false, false, false] rfl rfl (take_ofW HT_.out HW_.out (by kernel_rfl)) (fun _ _ _ h => h) (Or.inl ⟨by rfl, ?_⟩) hHeld ?_ ?_
                           rotate_left
                           ·rintro w' ⟨s0, s1⟩
                            go_simp
                            with_reducible rfl
                           rotate_left
                           ·simp only [Act.put, List.setIfInBounds_toArray, List.set_cons_zero, List.set_cons_succ, i64_w, i32_w]
                            rfl
                           refine one_ (i := 10) (N := some 73) #[true, true, true, true, true, true, true, true, true, true, true, false, false, false] rfl rfl (one_of HT_.out (by kernel_rfl)) (by decide) (fun K hK => ?_)
                           refine goes_ Try.func69 (by kernel_rfl) rfl #[.pointer (some ⟨g149, 0, none⟩), .int .u8 (rd (rd_L1 l0 x39_2) x46_3), .int .u8 (rd (rd_L1 l1 x46_3) x58_4)] (by rfl) rfl rfl (by (try simp only [List.map_toArray, List.map_cons, List.map_nil]); first | done | rfl | (simp only [tb_wrap8]; done) | (simp only [tb_wrap8]; rfl) | (simp only [List.length_drop, List.length_take]; rfl)) ?_
                           with_reducible refine (gf8_Tables_Mul.calls g149 (rd (rd_L1 l0 x39_2) x46_3) (rd (rd_L1 l1 x46_3) x58_4) t160 _ ?side1 A29.out).mono ?_
                           (case side1 => repeat (first | (with_reducible first | exact HI149.out | apply IsS125.alloc | apply IsS125.drewN | apply IsS125.drew) | exact HI149.out))
                           rintro e w' ⟨rfl, ⟨nd, rfl⟩⟩
                           refine ⟨_, rfl, ?_⟩
                           have p30 : 0 ≤ (x58_4 : Int) := of_decide_eq_true (by first | (with_reducible assumption) | assumption)
                           have q30 : (x58_4 : Int) < (((rd_L1 x7_4 x39_2).length : Int) : Int) := of_decide_eq_true (by first | (with_reducible assumption) | assumption)
                           obtain ⟨go30, co30, eo30, gb30, gl30, cl30, HG30⟩ := Kd.R_form HL158_0.out (by omega)
                           (first | cases eo30 | (injection eo30 with ea_ en_ ec_; (first | subst ea_ | (injection ea_ with ea_; subst ea_)); subst ec_; clear en_))
                           have GB30 := Aside0.mk gb30
                           have GG30 := Aside0.mk HG30
                           clear gb30 gl30 HG30
                           (first | simp only [add_plain] at hx159_0 | skip)
                           obtain ⟨hx30_0, hf30_0⟩ := Kd.R_celln 0 HL158_0.out (x58_4 : Int) p30 q30
                           replace p30 := eq_true p30
                           replace q30 := eq_true q30
                           have hq33 : (x39_2 : Int) < (x7_4.length : Int) := (by have h_ : (x39_2 : Int) < ((x7_4.length : Int) : Int) := of_decide_eq_true (by first | (with_reducible assumption) | assumption); first | exact h_ | (have e_ := (Kd.S_reads' HO_7.out).1; omega) | simpa only [List.length_set, List.length_set] using h_)
                           obtain ⟨oki33, ce33, hcl33, hM33, hcc33, hok33, hbk33⟩ := Kd.S_borrow HO_7.out [] (x39_2 : Int) (of_decide_eq_true (by first | (with_reducible assumption) | assumption)) hq33
                           obtain ⟨ve33_0, rfl, ge33_0⟩ := hM33
                           have hv33 := hcc33 0 _ rfl
                           rw [Nat.add_zero, show ((Kd.slice 5 (Kd.int .u8))).sz = 1 from rfl, Nat.mul_one] at hv33
                           replace hv33 := Option.some.inj (hv33.symm.trans HX158_0.out)
                           subst hv33
                           clear hcc33 hcl33
                           replace ge33_0 := (show Kd.R (Kd.int .u8) 5 _ _ _ _ (rd_L1 x7_4 x39_2) from ge33_0)
                           have HP33 := Kd.R_putg ge33_0 (x58_4 : Int) (Go.bits .xor .u8 (rd (rd_L1 x7_4 x39_2) x58_4) t160)
                           have HN149_go30 := Aside0.mk (show g149 ≠ go30 from by have h_ := IsS125.own_ne HI149.out HL158_0.out (by decide); intro e_; exact h_ (by rw [e_]; rfl))
                           rw [← Ny161.out] at HP33
                           have HS33 := hbk33 HP33.2 (fun k_ e_ => by injection e_ with e_; subst e_; exact ge33_0.1 _ rfl) (x' := y161) (Kd.M_row HP33.1)
                           rw [← Ny163.out] at HS33
                           have HQ33 := Aside0.mk HS33
                           clear HP33 HS33 hbk33 hok33
                           refine hK.out _ _ ⟨hHeld.1, hHeld.2⟩ (fun hHeld => ?_)
                           clear hK K
                           refine norm_ (a' := ?_) ?_ ?_
                           rotate_left
                           ·show Act.put _ (some 73) _ = _
                            simp only [Act.put, List.setIfInBounds_toArray, List.set_cons_zero, List.set_cons_succ, i64_w, i32_w]
                            rfl
                           refine pure_ (i := 11) (N := some 74) (v := ?_) (a' := ?_) #[true, true, true, true, true, true, true, true, true, true, true, true, false, false] rfl rfl (any_of HT_.out (by kernel_rfl)) (fun _ _ _ h => h) (Or.inl ⟨by rfl, ?_⟩) ?_ ?_
                           rotate_left
                           ·intro w'
                            go_simp
                            with_reducible rfl
                           rotate_left
                           ·simp only [Act.put, List.setIfInBounds_toArray, List.set_cons_zero, List.set_cons_succ, i64_w, i32_w]
                            rfl
                           refine pure_ (i := 12) (N := some 75) (v := ?_) (a' := ?_) #[true, true, true, true, true, true, true, true, true, true, true, true, true, false] rfl rfl (any_of HT_.out (by kernel_rfl)) (fun _ _ _ h => h) (Or.inl ⟨by rfl, ?_⟩) ?_ ?_
                           rotate_left
                           ·intro w'
                            go_simp
                            with_reducible rfl
                           rotate_left
                           ·simp only [Act.put, List.setIfInBounds_toArray, List.set_cons_zero, List.set_cons_succ, i64_w, i32_w]
                            rfl
                           refine last_ (i := 13) (N := none) #[true, true, true, true, true, true, true, true, true, true, true, true, true, true] rfl rfl (one_of HT_.out (by kernel_rfl)) (by decide) (fun K hK => ?_)
                           refine skip_ (w1 := ?_) (by rfl) rfl ?_ ?_
                           rotate_left
                           ·go_simp
                            rfl
                           refine hK.out _ _ ?_
                           clear hK K
                           refine done_ (done_of HT_.out (by kernel_rfl)) ?_
                           try go_wp2
                           go_roundg k4
                           case measure => have := HJ2.out; have := HK2.out; have := HK3.out; have := HK4.out; omega
                           case rel => exact ⟨(y163), (wrap64 (x58_4 + 1)), (by first | rfl | (simp; done) | (simp [*]; done)), H', ⟨by have := HJ2.out; have := HK2.out; have := HK3.out; have := HK4.out; omega⟩, ⟨by (with_reducible repeat (first | apply Kd.S_alloc | apply Kd.S_drewN | apply Kd.S_drew)); exact HQ33.out⟩, ⟨by repeat (first | (with_reducible first | exact HI149.out | apply IsS125.alloc | apply IsS125.drewN | apply IsS125.drew | refine IsS125.far ?_ HN149_go30.out _) | exact HI149.out)⟩, ⟨by repeat (first | (with_reducible first | exact HB.out | apply below_alloc | apply pw_below_drewN | apply below_drew1 | refine below_set ?_ GB30.out | refine below_set ?_ (IsS125.ge HI149.out)) | exact HB.out)⟩⟩
                          ·rw [if_neg c28] at H
                           exact absurd H (by simp)
                         ·rw [if_neg c27] at H
                          exact absurd H (by simp)
                        ·rw [if_neg c26] at H
                         exact absurd H (by simp)
                       ·rw [if_neg c25] at H
                        exact absurd H (by simp)
                      ·rw [if_neg c24] at H
                       exact absurd H (by simp)
                     ·rw [if_neg c23] at H
                      have c23b0 : decide (x58_4 < ((rd_L1 l1 x46_3).length : Int)) = false := decide_eq_false c23
                      clear c23
                      have H' := Aside0.mk H
                      clear H
                      go_wp2
                      go_roundg k4
                      case measure => have := HJ2.out; have := HK2.out; have := HK3.out; have := HK4.out; omega
                      case rel => exact ⟨(x7_4), (wrap64 (x46_3 + 1)), (by first | rfl | (simp; done) | (simp [*]; done)), H', ⟨by have := HJ2.out; have := HK2.out; have := HK3.out; have := HK4.out; omega⟩, ⟨by (with_reducible repeat (first | apply Kd.S_alloc | apply Kd.S_drewN | apply Kd.S_drew)); exact HO_7.out⟩, ⟨by repeat (first | (with_reducible first | exact HI149.out | apply IsS125.alloc | apply IsS125.drewN | apply IsS125.drew) | exact HI149.out)⟩, ⟨by repeat (first | (with_reducible first | exact HB.out | apply below_alloc | apply pw_below_drewN | apply below_drew1 | refine below_set ?_ (IsS125.ge HI149.out)) | exact HB.out)⟩⟩
                  ·rw [if_neg c22] at H
                   exact absurd H (by simp)
                ·rw [if_neg c20] at H
                 exact absurd H (by simp)
               ·rw [if_neg c19] at H
                exact absurd H (by simp)
              ·rw [if_neg c18] at H
               have c18b0 : decide (x46_3 < ((rd_L1 l0 x39_2).length : Int)) = false := decide_eq_false c18
               clear c18
               have H' := Aside0.mk H
               clear H
               go_wp2
               go_roundg k3
               case measure => have := HJ2.out; have := HK2.out; have := HK3.out; omega
               case rel => exact ⟨(x7_3), (wrap64 (x39_2 + 1)), (by first | rfl | (simp; done) | (simp [*]; done)), H', ⟨by have := HJ2.out; have := HK2.out; have := HK3.out; omega⟩, ⟨by (with_reducible repeat (first | apply Kd.S_alloc | apply Kd.S_drewN | apply Kd.S_drew)); exact HO_7.out⟩, ⟨by repeat (first | (with_reducible first | exact HI149.out | apply IsS125.alloc | apply IsS125.drewN | apply IsS125.drew) | exact HI149.out)⟩, ⟨by repeat (first | (with_reducible first | exact HB.out | apply below_alloc | apply pw_below_drewN | apply below_drew1 | refine below_set ?_ (IsS125.ge HI149.out)) | exact HB.out)⟩⟩
           ·rw [if_neg c17] at H
            exact absurd H (by simp)
          ·rw [if_neg c16] at H
           exact absurd H (by simp)
         ·rw [if_neg c15] at H
          have c15b0 : decide (x39_2 < (l0.length : Int)) = false := decide_eq_false c15
          clear c15
          simp only [Option.some.injEq, Prod.mk.injEq] at H
          obtain ⟨rfl, rfl⟩ := H
          go_wp2
          go_ret2
          exact ⟨_, by first | rfl | (simp [errW_none, errW_some] <;> rfl) | (simp [*, errW_none, errW_some] <;> rfl), by (with_reducible repeat (first | apply Kd.S_alloc | apply Kd.S_drewN | apply Kd.S_drew)); exact HO_7.out, by repeat (first | (with_reducible first | exact HB.out | apply below_alloc | apply pw_below_drewN | apply below_drew1 | refine below_set ?_ (IsS125.ge HI149.out)) | exact HB.out)⟩
      ·rw [if_neg c11] at H
       exact absurd H (by simp)
     ·rw [if_neg c9] at H
      have c9b0 : (((rd_L1 l0 0).length : Int) == (l1.length : Int)) = false := beq_eq_false_iff_ne.mpr c9
      have c9b1 : (((rd_L1 l0 0).length : Int) != (l1.length : Int)) = true := bne_iff_ne.mpr c9
      have c9b2 : ((rd_L1 l0 0).length == l1.length) = false := by first | simpa using c9 | (simp at c9 ⊢; omega)
      simp only [Option.some.injEq, Prod.mk.injEq] at H
      obtain ⟨rfl, rfl⟩ := H
      have p148 : 0 ≤ (0 : Int) := (by omega)
      have q148 : 0 < (l0.length : Int) := of_decide_eq_true (by first | (with_reducible assumption) | assumption)
      obtain ⟨ad148, A148_0, c148_0, e148, hx148_0, hl148_0, hi148_0⟩ := at_L1 HR0.out 0 p148 q148
      cases e148
      have qi148 : (0 < l0.length) = True := eq_true (by omega)
      (try rw [show ((0 : Int)).toNat = 0 from rfl] at hx148_0)
      (try rw [Addr.add_zero'] at hx148_0)
      replace hx148_0 := (HB.out.cell (World.block_lt_of_cell? w _ hx148_0)).trans hx148_0
      have HR148_0 := Aside0.mk hi148_0
      have HC148_0 := Aside0.mk hl148_0
      clear hi148_0 hl148_0
      replace p148 := eq_true p148
      replace q148 := eq_true q148
      go_wp2
      go_ret2
      exact ⟨_, by first | rfl | (simp [errW_none, errW_some] <;> rfl) | (simp [*, errW_none, errW_some] <;> rfl), by first | exact Kd.S_nil _ _ _ _ _ | exact Kd.N_nil _ _ _ _ _ | exact Kd.V_nil _ _ _ _ _ | exact Kd.Q_nil _ _ _ _ _ | exact Kd.R_nil _ _ _ _ _, by repeat (first | (with_reducible first | exact HB.out | apply below_alloc | apply pw_below_drewN | apply below_drew1) | exact HB.out)⟩
    ·rw [if_neg c8] at H
     exact absurd H (by simp)

end Go.Proofs.Ytkdoilmfchlpdaa.A
end
section
-- Printed for this claim by mp.py, a program of its prover, through the kit's print. Lean checks it.
namespace Go.Proofs.Ytkdoilmfchlpdaa.A
open Go.RowKit Go.Proofs.YtkdoilmfchlpdaaW.PrintWords Go.Proofs.YtkdoilmfchlpdaaW.PrintLast Go.Proofs.YtkdoilmfchlpdaaW.PrintMore
attribute [local go_sem] max2_int min2_int max_two min_two max_three min_three max_four min_four   -- for this text's walks alone
set_option linter.unusedVariables false
set_option linter.unusedSimpArgs false

/-! ### gf16_New: function 53 -/
/-- The n-th power of x. -/
def tab16.pw : Nat → Nat
 | 0 => 1
 | n + 1 => if 65535 < 2 * tab16.pw n then (2 * tab16.pw n) ^^^ 65581 else 2 * tab16.pw n
def tab16.lg : Nat → Nat → Option Nat
 | 0, _ => none
 | n + 1, a => if tab16.pw n = a then some n else tab16.lg n a
theorem tab16.pw_lt : ∀ n, tab16.pw n < 65536
 | 0 => by decide
 | n + 1 => by
  have := tab16.pw_lt n
  unfold tab16.pw
  split
  ·rename_i h
   have h17 : 2 * tab16.pw n < 2 ^ 17 := by omega
   have hx : (2 * tab16.pw n) ^^^ 65581 < 2 ^ 17 := Nat.xor_lt_two_pow h17 (by decide)
   have hb : ((2 * tab16.pw n) ^^^ 65581).testBit 16 = false := by
    rw [Nat.testBit_xor]
    have : (2 * tab16.pw n).testBit 16 = true := by
     rw [Nat.testBit_eq_decide_div_mod_eq, decide_eq_true_eq]; omega
    rw [this]; decide
   rw [Nat.testBit_eq_decide_div_mod_eq, decide_eq_false_iff_not] at hb
   omega
  ·omega
def tab16.Is (n : Nat) (cur : Array Value) : Prop := cur.size = 131071 ∧ (∀ j, j < n → cur[j]? = some (.int .u16 (tab16.pw j : Nat))) ∧ ∀ a m, tab16.lg n a = some m → cur[65535 + a]? = some (.int .u16 (m : Nat))
theorem tab16.lg_lt : ∀ n a m, tab16.lg n a = some m → m < n
 | 0, _, _, h => by cases h
 | n + 1, a, m, h => by
  unfold tab16.lg at h
  split at h
  ·obtain rfl := Option.some.inj h; omega
  ·have := tab16.lg_lt n a m h; omega
/-- A state of type 111 at block g of W; what its slices lead to came in by w0. -/
def IsS111 (w0 W : World) (g : Nat)  : Prop := ∃ cur_ : Array Value, W.heap[g]? = some (.cells cur_ 111 (0, 0)) ∧ tab16.Is 65535 cur_
theorem IsS111.grown {w0 W : World} {g : Nat}  {W1 : World} {row : Option Nat} (h : IsS111 w0 W g ) (hw : W.grownBy W1 row) (hne : some g ≠ row) : IsS111 w0 W1 g  := by
 obtain ⟨cur_, hb, hg⟩ := h
 exact ⟨cur_, blk_grown hb hw hne, hg⟩
theorem IsS111.kept {w0 W : World} {g : Nat}  {W1 : World} {S : Nat → Prop} (h : IsS111 w0 W g ) (hk : Kept W W1 S) (hne : ¬ S g) : IsS111 w0 W1 g  := by
 obtain ⟨cur_, hb, hg⟩ := h
 exact ⟨cur_, blk_kept hb hk hne, hg⟩
theorem IsS111.below {w0 W : World} {g : Nat}  {W1 : World} (h : IsS111 w0 W g ) (hw : Below W.heap.size W W1) : IsS111 w0 W1 g  := h.grown (grown_of_below hw none) (by simp)
theorem IsS111.alloc {w0 W : World} {g : Nat}  (h : IsS111 w0 W g ) (o : Obj) : IsS111 w0 (W.alloc o) g  := h.below (below_alloc (Below.refl _ _) o)
theorem IsS111.drewN {w0 W : World} {g : Nat}  (h : IsS111 w0 W g ) (m : Nat) : IsS111 w0 (W.drewN m) g  := h
theorem IsS111.drew {w0 W : World} {g : Nat}  (h : IsS111 w0 W g ) : IsS111 w0 W.drew g  := h
theorem IsS111.at_ {w0 W : World} {g : Nat}  {w' : World} {m : Nat} (hq : W.drewN m = w') (h : IsS111 w0 W g ) : IsS111 w0 w' g  := by subst hq; exact IsS111.drewN h m
theorem IsS111.apart {w0 W : World} {g : Nat}  {α : Type} {d : Kd α} {e : Nat} {base : Nat} {ok : Nat → Prop} {v : Value} {xs : List α} (h : IsS111 w0 W g ) (ho : d.R e W base ok v xs) (ht : ∀ q, q ∈ e :: d.E → q ≠ 111) : d.R e W base (fun k => ok k ∧ k ≠ g) v xs := by
 obtain ⟨cur_, hb, hg⟩ := h
 exact Kd.R_types ho hb ht
theorem IsS111.own_ne {w0 W : World} {g : Nat}  {α : Type} {d : Kd α} {e : Nat} {base : Nat} {ok : Nat → Prop} {v : Value} {xs : List α} (h : IsS111 w0 W g ) (ho : d.R e W base ok v xs) (ht : e ≠ 111) : some g ≠ v.ownBlock := by
 obtain ⟨cur_, hb, hg⟩ := h
 exact Kd.R_ne ho hb ht
theorem IsS111.lt {w0 W : World} {g : Nat}  (h : IsS111 w0 W g ) : g < W.heap.size := by
 obtain ⟨cur_, hb, hg⟩ := h
 exact blk_lt hb
theorem IsS111.ne_blk {w0 W : World} {g : Nat}  {a : Nat} {cs : Array Value} {t : TypeId} {fr : Nat × Nat} (h : IsS111 w0 W g ) (hb2 : W.heap[a]? = some (.cells cs t fr)) (ht : t ≠ 111) : g ≠ a := by
 obtain ⟨cur_, hb, hg⟩ := h
 rintro rfl
 rw [hb] at hb2
 injection hb2 with hb2
 injection hb2 with _ ht2
 exact ht ht2.symm
theorem IsS111.far {w0 W : World} {g : Nat}  {p : Addr} (h : IsS111 w0 W g ) (hne : g ≠ p.block) (u : Value) : IsS111 w0 (W.setCell p u) g  := by
 obtain ⟨cur_, hb, hg⟩ := h
 exact ⟨cur_, blk_far hb hne u, hg⟩
theorem IsS111.exp {w0 w : World} {g : Nat} (h : IsS111 w0 w g) {j : Nat} (hj : j < 65535) : w.cell? ⟨g, j, none⟩ = some (.int .u16 (tab16.pw j : Nat)) := by
 obtain ⟨cur, hh, _, he, _⟩ := h
 exact (cell_of_row w g j cur 111 (0, 0) hh).trans (he j hj)
theorem IsS111.log {w0 w : World} {g : Nat} (h : IsS111 w0 w g) {a m : Nat} (hm : tab16.lg 65535 a = some m) : w.cell? ⟨g, 65535 + a, none⟩ = some (.int .u16 (m : Nat)) := by
 obtain ⟨cur, hh, _, _, hl⟩ := h
 exact (cell_of_row w g (65535 + a) cur 111 (0, 0) hh).trans (hl a m hm)
set_option maxRecDepth 400000 in
theorem built16 : ∃ Z : Array Value, Try.prog.built 111 [] = some Z ∧ Z.size = 131071 := by
 have h1 : Try.prog.info? 111 = some Try.t111 := by kernel_rfl
 have h2 : (Try.t111.zero.map (fun z => z.cells.size)) = some 131071 := by kernel_rfl
 obtain ⟨z, hz, hs⟩ := Option.map_eq_some_iff.1 h2
 refine ⟨z.cells, ?_, hs⟩
 unfold Program.built
 rw [h1, Try.underlying111]
 simp only [hz]
 rfl
theorem tb_xor {a b : Nat} (ha : a < 2 ^ 62) (hb : b < 2 ^ 62) : Go.bits .xor .i64 a b = ((a ^^^ b : Nat) : Int) := by
 have hx : a ^^^ b < 2 ^ 62 := Nat.xor_lt_two_pow ha hb
 unfold Go.bits
 show IntKind.i64.wrap (((BitVec.ofInt 64 (a : Int) ^^^ BitVec.ofInt 64 (b : Int)).toNat : Nat) : Int) = _
 rw [BitVec.ofInt_natCast, BitVec.ofInt_natCast, BitVec.toNat_xor, BitVec.toNat_ofNat, BitVec.toNat_ofNat, Nat.mod_eq_of_lt (by omega), Nat.mod_eq_of_lt (by omega), IntKind.wrap_i64]
 omega
theorem tab16.next_hi {n x : Nat} (hx : x = tab16.pw n) (h : 65535 < x * 2) : Value.int .i64 ((tab16.pw (n + 1) : Nat) : Int) = Value.int .i64 (Go.bits .xor .i64 ((x : Int) * 2) 65581) := by
 have hp := tab16.pw_lt n
 have e := tb_xor (a := 2 * x) (b := 65581) (by omega) (by decide)
 rw [show ((2 * x : Nat) : Int) = (x : Int) * 2 by omega, show ((65581 : Nat) : Int) = 65581 from rfl] at e
 rw [e, tab16.pw, ← hx, if_pos (by omega)]
theorem tab16.next_lo {n x : Nat} (hx : x = tab16.pw n) (h : ¬ 65535 < x * 2) : Value.int .i64 ((tab16.pw (n + 1) : Nat) : Int) = Value.int .i64 ((x : Int) * 2) := by
 rw [tab16.pw, ← hx, if_neg (by omega), show ((2 * x : Nat) : Int) = (x : Int) * 2 by omega]
theorem tab16.Is_next {n : Nat} (hlt : n < 65535) {cur : Array Value} (hs : cur.size = 131071) (he : ∀ j, j < n → cur[j]? = some (.int .u16 (tab16.pw j : Nat))) (hl : ∀ a m, tab16.lg n a = some m → cur[65535 + a]? = some (.int .u16 (m : Nat))) :
  tab16.Is (n + 1) ((cur.setIfInBounds n (.int .u16 ((tab16.pw n : Nat) : Int))).setIfInBounds (65535 + tab16.pw n) (.int .u16 (n : Nat))) := by
 have hp := tab16.pw_lt n
 refine ⟨by simp [hs], fun j hj => ?_, fun a m hm => ?_⟩
 ·rw [Array.getElem?_setIfInBounds_ne (by omega)]
  by_cases e : j = n
  ·subst e
   rw [Array.getElem?_setIfInBounds_self_of_lt (by omega)]
  ·rw [Array.getElem?_setIfInBounds_ne (by omega)]
   exact he j (by omega)
 ·unfold tab16.lg at hm
  by_cases e : tab16.pw n = a
  ·rw [if_pos e] at hm
   subst e
   obtain rfl := Option.some.inj hm
   rw [Array.getElem?_setIfInBounds_self_of_lt (by simp; omega)]
  ·rw [if_neg e] at hm
   rw [Array.getElem?_setIfInBounds_ne (by omega), Array.getElem?_setIfInBounds_ne (by omega)]
   exact hl a m hm
def gf16_New.f : Option Unit := some ()
set_option maxHeartbeats 4000000 in
set_option maxRecDepth 100000 in
theorem gf16_New.calls (w0 w : World) (hB : Below w0.heap.size w0 w) (_h : gf16_New.f = some ()) : Calls Try.prog 53 #[] w fun e w' => ∃ g_ : Nat, e = .returned (.pointer (some ⟨g_, 0, none⟩)) ∧ IsS111 w0 w' g_ ∧ Below w0.heap.size w0 w' ∧ Below w.heap.size w w' := by
 obtain ⟨Z, hZ, hZs⟩ := built16
 go_enter Try.func53, Try.ntmps53
 go_wp2_with (first | (refine wpList_build rfl 111 rfl Z hZ ?_))
 go_loopw [2, 6] (fun v2 v6 wr => ∃ n : Nat, n ≤ 65535 ∧ v6 = .int .i64 n ∧ v2 = .int .i64 (tab16.pw n : Nat) ∧ (∃ cur, wr.heap[w.heap.size]? = some (.cells cur 111 (0, 0)) ∧ tab16.Is n cur) ∧ Below w.heap.size w wr) (fun _ v6 _ => 65535 - (intOf v6).toNat)
 case atStart =>
  have hb0 := below_alloc (Below.refl w.heap.size w) (Obj.cells Z 111)
  exact ⟨0, by omega, by rfl, by rfl, ⟨Z, by simpa using heap_alloc_new w _, hZs, fun j hj => absurd hj (by omega), fun a m hm => by cases hm⟩, hb0⟩
 case round =>
  obtain ⟨n, hn, rfl, rfl, ⟨cur, hh, hs, he, hl⟩, hbw⟩ := hrel
  by_cases hlt : n < 65535
  ·have hd : decide ((n : Int) < 65535) = true := decide_eq_true (by omega)
   have hp := tab16.pw_lt n
   obtain ⟨x, hx⟩ : ∃ x, x = tab16.pw n := ⟨_, rfl⟩
   rw [← hx] at hp ⊢
   have HX := Aside0.mk hx
   obtain ⟨u1, hu1⟩ : ∃ u, wr.cell? ⟨w.heap.size, n, none⟩ = some u := ⟨_, (cell_of_row wr _ n cur 111 (0, 0) hh).trans (Array.getElem?_eq_getElem (by omega))⟩
   have hf1 : wr.frozen? ⟨w.heap.size, n, none⟩ = false := blk_frozen hh _
   have hh1 := blk_set hh n (.int .u16 (x : Int))
   have hh2 := blk_set hh1 (65535 + x) (.int .u16 (n : Int))
   obtain ⟨u2, hu2⟩ : ∃ u, (wr.setCell ⟨w.heap.size, n, none⟩ (.int .u16 (x : Int))).cell? ⟨w.heap.size, 65535 + x, none⟩ = some u := ⟨_, (cell_of_row _ _ (65535 + x) _ 111 (0, 0) hh1).trans (Array.getElem?_eq_getElem (by simp; omega))⟩
   have hf2 : (wr.setCell ⟨w.heap.size, n, none⟩ (.int .u16 (x : Int))).frozen? ⟨w.heap.size, 65535 + x, none⟩ = false := blk_frozen hh1 _
   have HH1 := Aside0.mk hh1
   have HH2 := Aside0.mk hh2
   clear hh1 hh2
   have HE := Aside0.mk he
   have HL := Aside0.mk hl
   have HS := Aside0.mk hs
   have HH := Aside0.mk hh
   clear he hl hx hs hh
   clear hZ hZs
   have hIs := tab16.Is_next hlt HS.out HE.out HL.out
   rw [← HX.out] at hIs
   have HIs := Aside0.mk hIs
   clear hIs
   have hB1 : Below w.heap.size w ((wr.setCell ⟨w.heap.size, n, none⟩ (.int .u16 (x : Int))).setCell ⟨w.heap.size, 65535 + x, none⟩ (.int .u16 (n : Int))) := below_set (below_set hbw (Nat.le_refl _)) (Nat.le_refl _)
   have HB1 := Aside0.mk hB1
   clear hB1
   by_cases hgt : 65535 < x * 2
   ·have hg1 : decide (65535 < (x : Int) * 2) = true := decide_eq_true (by omega)
    go_wp2
    go_roundw
    case rel => exact ⟨n + 1, by omega, by go_num, by rw [← tab16.next_hi HX.out hgt], ⟨_, HH2.out, HIs.out⟩, HB1.out⟩
    case measure => simp [intOf]; omega
   ·have hg1 : decide (65535 < (x : Int) * 2) = false := decide_eq_false (by omega)
    go_wp2
    go_roundw
    case rel => exact ⟨n + 1, by omega, by go_num, by rw [← tab16.next_lo HX.out hgt], ⟨_, HH2.out, HIs.out⟩, HB1.out⟩
    case measure => simp [intOf]; omega
  ·have hd : decide ((n : Int) < 65535) = false := decide_eq_false (by omega)
   obtain rfl : n = 65535 := by omega
   go_wp2
   go_ret
   exact ⟨w.heap.size, rfl, ⟨cur, hh, hs, he, hl⟩, below_step hB hbw, hbw⟩

-- NOT PRINTED: function 74 (gf16_Tables_Inv)

-- NOT PRINTED: function 75 (gf16_Tables_Mul)

-- NOT PRINTED: function 54 (gf16_Tables_Div)

/-! ### bits_Len64: function 72 -/
def bits_Len64.f (a0 : Int) : Option (Int) := if 0 ≤ a0 then (if a0 ≤ 18446744073709551615 then (some (Lib.bitLen a0.toNat : Int)) else none) else none
theorem bits_Len64.calls (a0 : Int) (r : Int) (w : World) (h : bits_Len64.f a0 = some r) :
  Calls Try.prog 72 #[.int .u64 a0] w fun e w' => e = .returned (.int .i64 r) ∧ Drawn0 w w' := by
 unfold bits_Len64.f at h
 by_cases h0 : 0 ≤ a0
 ·rw [if_pos h0] at h
  by_cases h1 : a0 ≤ 18446744073709551615
  ·rw [if_pos h1] at h
   obtain rfl := Option.some.inj h
   refine (Try.bits_Len64 a0 w h0 h1).mono ?_
   rintro e w' ⟨rfl, rfl⟩
   exact ⟨rfl, Drawn0.refl _⟩
  ·rw [if_neg h1] at h; exact absurd h (by simp)
 ·rw [if_neg h0] at h; exact absurd h (by simp)

/-! ### ring_Degree: function 89 -/
def ring_Degree.f (a0 : Int) : Option (Int) := (bits_Len64.f a0).bind fun t164 => (some (wrap64 (t164 - 1)))
set_option maxHeartbeats 8000000 in
set_option maxRecDepth 100000 in
theorem ring_Degree.calls (a0 : Int) (r : Int) (w : World) (h : ring_Degree.f a0 = some r) :
  Calls Try.prog 89 #[.int .u64 a0] w fun e w' => e = .returned (.int .i64 r) ∧ Drawn0 w w' := by
 have H : ((bits_Len64.f a0).bind fun t164 => (some (wrap64 (t164 - 1)))) = some r := h
 clear h
 replace H := Option.bind_eq_some_iff.mp H
 obtain ⟨t164, A20, H⟩ := H
 replace H : (some (wrap64 (t164 - 1))) = some r := H
 have A2 := Aside0.mk A20
 clear A20
 obtain rfl := Option.some.inj H
 go_enter Try.func89, Try.ntmps89
 go_wp2_with (first | ((with_reducible refine gate_callee (f := 72) rfl ?_); refine goesL_ (some 4) rfl rfl Try.func72 (by kernel_rfl) rfl #[.int .u64 a0] rfl (by (try simp only [List.map_toArray, List.map_cons, List.map_nil]); first | done | rfl | (simp only [tb_wrap8]; done) | (simp only [tb_wrap8]; rfl) | (simp only [List.length_drop, List.length_take]; rfl)) ?_; (with_reducible refine (bits_Len64.calls a0 t164 _ A2.out).mono ?_); rintro e w' ⟨rfl, ⟨nd, rfl⟩⟩; refine ⟨_, rfl, ?_⟩))
 go_ret
 exact ⟨by first | rfl | (simp; done) | (simp [*]; done), by repeat (first | exact Drawn0.refl _ | apply Drawn0.step)⟩

/-! ### ring_isModulus: function 76 -/
def ring_isModulus.f (a0 : Int) (a1 : Int) : Option (Bool) := (ring_Degree.f a0).bind fun t165 => (if t165 ≥ 1 then (some (decide (t165 ≤ a1))) else (some false))
set_option maxHeartbeats 8000000 in
set_option maxRecDepth 100000 in
theorem ring_isModulus.calls (a0 : Int) (a1 : Int) (r : Bool) (w : World) (h : ring_isModulus.f a0 a1 = some r) :
  Calls Try.prog 76 #[.int .u64 a0, .int .i64 a1] w fun e w' => e = .returned (.bool r) ∧ Drawn0 w w' := by
 have H : ((ring_Degree.f a0).bind fun t165 => (if t165 ≥ 1 then (some (decide (t165 ≤ a1))) else (some false))) = some r := h
 clear h
 replace H := Option.bind_eq_some_iff.mp H
 obtain ⟨t165, A30, H⟩ := H
 replace H : (if t165 ≥ 1 then (some (decide (t165 ≤ a1))) else (some false)) = some r := H
 have A3 := Aside0.mk A30
 clear A30
 by_cases c4 : t165 ≥ 1
 ·rw [if_pos c4] at H
  have c4b0 : decide (1 ≤ t165) = true := decide_eq_true c4
  clear c4
  obtain rfl := Option.some.inj H
  go_enter Try.func76, Try.ntmps76
  go_wp2_with (first | ((with_reducible refine gate_callee (f := 89) rfl ?_); refine goesL_ (some 7) rfl rfl Try.func89 (by kernel_rfl) rfl #[.int .u64 a0] rfl (by (try simp only [List.map_toArray, List.map_cons, List.map_nil]); first | done | rfl | (simp only [tb_wrap8]; done) | (simp only [tb_wrap8]; rfl) | (simp only [List.length_drop, List.length_take]; rfl)) ?_; (with_reducible refine (ring_Degree.calls a0 t165 _ A3.out).mono ?_); rintro e w' ⟨rfl, ⟨nd, rfl⟩⟩; refine ⟨_, rfl, ?_⟩))
  go_ret
  exact ⟨by first | rfl | (simp; done) | (simp [*]; done), by repeat (first | exact Drawn0.refl _ | apply Drawn0.step)⟩
 ·rw [if_neg c4] at H
  have c4b0 : decide (1 ≤ t165) = false := decide_eq_false c4
  clear c4
  obtain rfl := Option.some.inj H
  go_enter Try.func76, Try.ntmps76
  go_wp2_with (first | ((with_reducible refine gate_callee (f := 89) rfl ?_); refine goesL_ (some 7) rfl rfl Try.func89 (by kernel_rfl) rfl #[.int .u64 a0] rfl (by (try simp only [List.map_toArray, List.map_cons, List.map_nil]); first | done | rfl | (simp only [tb_wrap8]; done) | (simp only [tb_wrap8]; rfl) | (simp only [List.length_drop, List.length_take]; rfl)) ?_; (with_reducible refine (ring_Degree.calls a0 t165 _ A3.out).mono ?_); rintro e w' ⟨rfl, ⟨nd, rfl⟩⟩; refine ⟨_, rfl, ?_⟩))
  go_ret
  exact ⟨by first | rfl | (simp; done) | (simp [*]; done), by repeat (first | exact Drawn0.refl _ | apply Drawn0.step)⟩

/-! ### ring_divMod: function 90 -/
def ring_divMod.l0 : Nat → Int → Int → Int → Int → Option (Int × Int)
 | 0, _, _, _, _ => none
 | k + 1, x0, x1, x4, x6 => (ring_Degree.f x0).bind fun t167 => (if (wrap64 (t167 - x6)) < 0 then (some (x4, x0)) else (if 0 ≤ (wrap64 (t167 - x6)) then (ring_divMod.l0 k (Go.bits .xor .u64 x0 (shl .u64 x1 (wrap64 (t167 - x6)))) x1 (Go.bits .or .u64 x4 (shl .u64 1 (wrap64 (t167 - x6)))) x6) else (none)))
def ring_divMod.f (k : Nat) (a0 : Int) (a1 : Int) : Option (Int × Int) := (ring_Degree.f a1).bind fun t166 => (ring_divMod.l0 k a0 a1 0 t166)
theorem ring_divMod.mono_l : ∀ k, (∀ y0 y1 y2 y3, LeO (ring_divMod.l0 k y0 y1 y2 y3) (ring_divMod.l0 (k + 1) y0 y1 y2 y3))
 | 0 => fun _ _ _ _ r h => by simp [ring_divMod.l0] at h
 | k + 1 => by
  have ih0 := ring_divMod.mono_l k
  ·intro y0 y1 y2 y3
   unfold ring_divMod.l0
   repeat' first
   | (with_reducible exact ih0 _ _ _ _)
   | (with_reducible exact LeO.refl _)
   | (with_reducible exact LeO.none _)
   | (with_reducible refine LeO.ite ?_ ?_)
   | (with_reducible refine LeO.bind ?_ (fun _ => ?_))
   | exact ih0 _ _ _ _
   | exact LeO.none _
   | refine LeO.ite ?_ ?_
   | refine LeO.bind ?_ (fun _ => ?_)
theorem ring_divMod.mono : ∀ a0 a1 k, LeO (ring_divMod.f k a0 a1) (ring_divMod.f (k + 1) a0 a1) := by
 intro a0 a1 k
 have ih0 := ring_divMod.mono_l k
 unfold ring_divMod.f
 repeat' first
   | (with_reducible exact ih0 _ _ _ _)
   | (with_reducible exact LeO.refl _)
   | (with_reducible exact LeO.none _)
   | (with_reducible refine LeO.ite ?_ ?_)
   | (with_reducible refine LeO.bind ?_ (fun _ => ?_))
   | exact ih0 _ _ _ _
   | exact LeO.none _
   | refine LeO.ite ?_ ?_
   | refine LeO.bind ?_ (fun _ => ?_)
set_option maxHeartbeats 8000000 in
set_option maxRecDepth 100000 in
theorem ring_divMod.calls (k : Nat) (a0 : Int) (a1 : Int) (r1 : Int) (r2 : Int) (w : World) (h : ring_divMod.f k a0 a1 = some (r1, r2)) :
  Calls Try.prog 90 #[.int .u64 a0, .int .u64 a1] w fun e w' => e = .returned (.tuple #[.int .u64 r1, .int .u64 r2]) ∧ Drawn0 w w' := by
 have H : ((ring_Degree.f a1).bind fun t166 => (ring_divMod.l0 k a0 a1 0 t166)) = some (r1, r2) := h
 clear h
 replace H := Option.bind_eq_some_iff.mp H
 obtain ⟨t166, A30, H⟩ := H
 replace H : (ring_divMod.l0 k a0 a1 0 t166) = some (r1, r2) := H
 have A3 := Aside0.mk A30
 clear A30
 have H' := Aside0.mk H
 clear H
 go_enter Try.func90, Try.ntmps90
 go_wp2_with (first | ((with_reducible refine gate_callee (f := 89) rfl ?_); refine goesL_ (some 9) rfl rfl Try.func89 (by kernel_rfl) rfl #[.int .u64 a1] rfl (by (try simp only [List.map_toArray, List.map_cons, List.map_nil]); first | done | rfl | (simp only [tb_wrap8]; done) | (simp only [tb_wrap8]; rfl) | (simp only [List.length_drop, List.length_take]; rfl)) ?_; (with_reducible refine (ring_Degree.calls a1 t166 _ A3.out).mono ?_); rintro e w' ⟨rfl, ⟨nd, rfl⟩⟩; refine ⟨_, rfl, ?_⟩))
 go_loopg [0, 4] k (fun kq v0 v4 w' => ∃ (x0_1 : Int) (x4_1 : Int), v0 = .int .u64 x0_1 ∧ v4 = .int .u64 x4_1 ∧ Aside0 (ring_divMod.l0 kq x0_1 a1 x4_1 t166 = some (r1, r2)) ∧ Aside0 (kq ≤ k) ∧ Drawn0 w w')
 case atStart => exact ⟨(a0), (0), (by first | rfl | (simp; done) | (simp [*]; done)), (by first | rfl | (simp; done) | (simp [*]; done)), H', ⟨Nat.le_refl _⟩, by repeat (first | exact Drawn0.refl _ | apply Drawn0.step)⟩
 case round =>
  clear H'
  try clear p2
  obtain ⟨x0_1, x4_1, rfl, rfl, HA, HK1, ⟨m1, rfl⟩⟩ := hrel
  cases gk with
  | zero => exact absurd HA.out (by simp [ring_divMod.l0])
  | succ k1 =>
   have H := HA.out
   clear HA
   simp only [ring_divMod.l0] at H
   replace H := Option.bind_eq_some_iff.mp H
   obtain ⟨t167, A40, H⟩ := H
   replace H : (if (wrap64 (t167 - t166)) < 0 then (some (x4_1, x0_1)) else (if 0 ≤ (wrap64 (t167 - t166)) then (ring_divMod.l0 k1 (Go.bits .xor .u64 x0_1 (shl .u64 a1 (wrap64 (t167 - t166)))) a1 (Go.bits .or .u64 x4_1 (shl .u64 1 (wrap64 (t167 - t166)))) t166) else (none))) = some (r1, r2) := H
   have A4 := Aside0.mk A40
   clear A40
   by_cases c5 : (wrap64 (t167 - t166)) < 0
   ·rw [if_pos c5] at H
    have c5b0 : decide ((wrap64 (t167 - t166)) < 0) = true := decide_eq_true c5
    clear c5
    simp only [Option.some.injEq, Prod.mk.injEq] at H
    obtain ⟨rfl, rfl⟩ := H
    go_wp2_with (first | ((with_reducible refine gate_callee (f := 89) rfl ?_); refine goesL_ (some 11) rfl rfl Try.func89 (by kernel_rfl) rfl #[.int .u64 x0_1] rfl (by (try simp only [List.map_toArray, List.map_cons, List.map_nil]); first | done | rfl | (simp only [tb_wrap8]; done) | (simp only [tb_wrap8]; rfl) | (simp only [List.length_drop, List.length_take]; rfl)) ?_; (with_reducible refine (ring_Degree.calls x0_1 t167 _ A4.out).mono ?_); rintro e w' ⟨rfl, ⟨nd, rfl⟩⟩; refine ⟨_, rfl, ?_⟩))
    go_ret2
    exact ⟨by first | rfl | (simp; done) | (simp [*]; done), by repeat (first | exact Drawn0.refl _ | apply Drawn0.step)⟩
   ·rw [if_neg c5] at H
    have c5b0 : decide ((wrap64 (t167 - t166)) < 0) = false := decide_eq_false c5
    clear c5
    obtain ⟨ji6, hji6⟩ : ∃ j_ : Int, (wrap64 (t167 - t166)) = j_ := ⟨_, rfl⟩
    replace H : (if 0 ≤ (ji6) then (ring_divMod.l0 k1 (Go.bits .xor .u64 x0_1 (shl .u64 a1 (ji6))) a1 (Go.bits .or .u64 x4_1 (shl .u64 1 (ji6))) t166) else (none)) = some (r1, r2) := by first | (rw [hji6] at H; exact H) | (simp only [hji6] at H ⊢; exact H)
    (try rw [hji6] at c5b0)
    (try rw [hji6] at A4)
    have hji6w : (IntKind.i64.wrap (t167 - t166)) = ji6 := (i64_w _).trans hji6
    by_cases c7 : 0 ≤ (ji6)
    ·rw [if_pos c7] at H
     have c7b0 := eq_true c7
     have c7b1 : decide (0 ≤ (ji6)) = true := decide_eq_true c7
     clear c7
     obtain ⟨ji8, hji8⟩ : ∃ j_ : Int, (shl .u64 1 (ji6)) = j_ := ⟨_, rfl⟩
     replace H : (ring_divMod.l0 k1 (Go.bits .xor .u64 x0_1 (shl .u64 a1 (ji6))) a1 (Go.bits .or .u64 x4_1 (ji8)) t166) = some (r1, r2) := by first | (rw [hji8] at H; exact H) | (simp only [hji8] at H ⊢; exact H)
     (try rw [hji8] at A4)
     have hji8_ : (IntKind.u64.wrap (1 * 2 ^ min (ji6).toNat 64)) = ji8 := hji8
     have hji8z : (ji6) ≤ 64 → (IntKind.u64.wrap (1 * 2 ^ (ji6).toNat)) = ji8 := shl_small hji8
     have hji8u : (IntKind.u64.wrap (2 ^ min (ji6).toNat 64)) = ji8 := by have h_ := hji8_; rw [Int.one_mul] at h_; exact h_
     have hji8v : (ji6) ≤ 64 → (IntKind.u64.wrap (2 ^ (ji6).toNat)) = ji8 := fun hle_ => by have h_ := hji8z hle_; rw [Int.one_mul] at h_; exact h_
     have c9b0 := eq_true (of_decide_eq_true (by first | (with_reducible assumption) | assumption) : 0 ≤ (ji6))
     obtain ⟨ji10, hji10⟩ : ∃ j_ : Int, (shl .u64 a1 (ji6)) = j_ := ⟨_, rfl⟩
     replace H : (ring_divMod.l0 k1 (Go.bits .xor .u64 x0_1 (ji10)) a1 (Go.bits .or .u64 x4_1 (ji8)) t166) = some (r1, r2) := by first | (rw [hji10] at H; exact H) | (simp only [hji10] at H ⊢; exact H)
     (try rw [hji10] at A4)
     have hji10_ : (IntKind.u64.wrap (a1 * 2 ^ min (ji6).toNat 64)) = ji10 := hji10
     have hji10z : (ji6) ≤ 64 → (IntKind.u64.wrap (a1 * 2 ^ (ji6).toNat)) = ji10 := shl_small hji10
     have H' := Aside0.mk H
     clear H
     go_wp2_with (first | ((with_reducible refine gate_callee (f := 89) rfl ?_); refine goesL_ (some 11) rfl rfl Try.func89 (by kernel_rfl) rfl #[.int .u64 x0_1] rfl (by (try simp only [List.map_toArray, List.map_cons, List.map_nil]); first | done | rfl | (simp only [tb_wrap8]; done) | (simp only [tb_wrap8]; rfl) | (simp only [List.length_drop, List.length_take]; rfl)) ?_; (with_reducible refine (ring_Degree.calls x0_1 t167 _ A4.out).mono ?_); rintro e w' ⟨rfl, ⟨nd, rfl⟩⟩; refine ⟨_, rfl, ?_⟩))
     go_roundg k1
     case measure => have := HK1.out; omega
     case rel => exact ⟨(Go.bits .xor .u64 x0_1 (ji10)), (Go.bits .or .u64 x4_1 (ji8)), (by first | rfl | (simp; done) | (simp only [← hji10] <;> (first | rfl | simp)) | (simp [*]; done)), (by first | rfl | (simp; done) | (simp only [← hji8] <;> (first | rfl | simp)) | (simp [*]; done)), H', ⟨by have := HK1.out; omega⟩, by repeat (first | exact Drawn0.refl _ | apply Drawn0.step)⟩
    ·rw [if_neg c7] at H
     exact absurd H (by simp)

end Go.Proofs.Ytkdoilmfchlpdaa.A
end
section
-- Printed for this claim by mp.py, a program of its prover, through the kit's print. Lean checks it.
namespace Go.Proofs.Ytkdoilmfchlpdaa.A
open Go.RowKit Go.Proofs.YtkdoilmfchlpdaaW.PrintWords Go.Proofs.YtkdoilmfchlpdaaW.PrintLast Go.Proofs.YtkdoilmfchlpdaaW.PrintMore
attribute [local go_sem] max2_int min2_int max_two min_two max_three min_three max_four min_four   -- for this text's walks alone
set_option linter.unusedVariables false
set_option linter.unusedSimpArgs false

/-! ### ring_mulMod: function 77 -/
def ring_mulMod.l0 : Nat → Int → Int → Int → Int → Int → Int → Option (Int)
 | 0, _, _, _, _, _, _ => none
 | k + 1, x0, x1, x2, x7, x8, x9 => if x9 ≥ 0 then (if 0 ≤ x7 then (if (Go.bits .and .u64 (shr .u64 (IntKind.u64.wrap (x8 * 2)) x7) 1) = 1 then (if 0 ≤ x9 then (if (Go.bits .and .u64 (shr .u64 x1 x9) 1) = 1 then (ring_mulMod.l0 k x0 x1 x2 x7 (Go.bits .xor .u64 (Go.bits .xor .u64 (IntKind.u64.wrap (x8 * 2)) x2) x0) (wrap64 (x9 - 1))) else (ring_mulMod.l0 k x0 x1 x2 x7 (Go.bits .xor .u64 (IntKind.u64.wrap (x8 * 2)) x2) (wrap64 (x9 - 1)))) else (none)) else (if 0 ≤ x9 then (if (Go.bits .and .u64 (shr .u64 x1 x9) 1) = 1 then (ring_mulMod.l0 k x0 x1 x2 x7 (Go.bits .xor .u64 (IntKind.u64.wrap (x8 * 2)) x0) (wrap64 (x9 - 1))) else (ring_mulMod.l0 k x0 x1 x2 x7 (IntKind.u64.wrap (x8 * 2)) (wrap64 (x9 - 1)))) else (none))) else (none)) else (some x8)
def ring_mulMod.f (k : Nat) (a0 : Int) (a1 : Int) (a2 : Int) : Option (Int) := (ring_divMod.f k a0 a2).bind fun bt168 => ((ring_divMod.f k a1 a2).bind fun bt170 => ((ring_Degree.f a2).bind fun t172 => (ring_mulMod.l0 k bt168.2 bt170.2 a2 t172 0 (wrap64 (t172 - 1)))))
theorem ring_mulMod.mono_l : ∀ k, (∀ y0 y1 y2 y3 y4 y5, LeO (ring_mulMod.l0 k y0 y1 y2 y3 y4 y5) (ring_mulMod.l0 (k + 1) y0 y1 y2 y3 y4 y5))
 | 0 => fun _ _ _ _ _ _ r h => by simp [ring_mulMod.l0] at h
 | k + 1 => by
  have ih0 := ring_mulMod.mono_l k
  ·intro y0 y1 y2 y3 y4 y5
   unfold ring_mulMod.l0
   repeat' first
   | (with_reducible exact ih0 _ _ _ _ _ _)
   | (with_reducible exact ring_divMod.mono _ _ _)
   | (with_reducible exact LeO.refl _)
   | (with_reducible exact LeO.none _)
   | (with_reducible refine LeO.ite ?_ ?_)
   | (with_reducible refine LeO.bind ?_ (fun _ => ?_))
   | exact ih0 _ _ _ _ _ _
   | exact ring_divMod.mono _ _ _
   | exact LeO.none _
   | refine LeO.ite ?_ ?_
   | refine LeO.bind ?_ (fun _ => ?_)
theorem ring_mulMod.mono : ∀ a0 a1 a2 k, LeO (ring_mulMod.f k a0 a1 a2) (ring_mulMod.f (k + 1) a0 a1 a2) := by
 intro a0 a1 a2 k
 have ih0 := ring_mulMod.mono_l k
 unfold ring_mulMod.f
 repeat' first
   | (with_reducible exact ih0 _ _ _ _ _ _)
   | (with_reducible exact ring_divMod.mono _ _ _)
   | (with_reducible exact LeO.refl _)
   | (with_reducible exact LeO.none _)
   | (with_reducible refine LeO.ite ?_ ?_)
   | (with_reducible refine LeO.bind ?_ (fun _ => ?_))
   | exact ih0 _ _ _ _ _ _
   | exact ring_divMod.mono _ _ _
   | exact LeO.none _
   | refine LeO.ite ?_ ?_
   | refine LeO.bind ?_ (fun _ => ?_)
set_option maxHeartbeats 8000000 in
set_option maxRecDepth 100000 in
theorem ring_mulMod.calls (k : Nat) (a0 : Int) (a1 : Int) (a2 : Int) (r : Int) (w : World) (h : ring_mulMod.f k a0 a1 a2 = some r) :
  Calls Try.prog 77 #[.int .u64 a0, .int .u64 a1, .int .u64 a2] w fun e w' => e = .returned (.int .u64 r) ∧ Drawn0 w w' := by
 have H : ((ring_divMod.f k a0 a2).bind fun bt168 => ((ring_divMod.f k a1 a2).bind fun bt170 => ((ring_Degree.f a2).bind fun t172 => (ring_mulMod.l0 k bt168.2 bt170.2 a2 t172 0 (wrap64 (t172 - 1)))))) = some r := h
 clear h
 replace H := Option.bind_eq_some_iff.mp H
 obtain ⟨⟨t168, t169⟩, A40, H⟩ := H
 replace H : ((ring_divMod.f k a1 a2).bind fun bt170 => ((ring_Degree.f a2).bind fun t172 => (ring_mulMod.l0 k t169 bt170.2 a2 t172 0 (wrap64 (t172 - 1))))) = some r := H
 have A4 := Aside0.mk A40
 clear A40
 replace H := Option.bind_eq_some_iff.mp H
 obtain ⟨⟨t170, t171⟩, A50, H⟩ := H
 replace H : ((ring_Degree.f a2).bind fun t172 => (ring_mulMod.l0 k t169 t171 a2 t172 0 (wrap64 (t172 - 1)))) = some r := H
 have A5 := Aside0.mk A50
 clear A50
 replace H := Option.bind_eq_some_iff.mp H
 obtain ⟨t172, A60, H⟩ := H
 replace H : (ring_mulMod.l0 k t169 t171 a2 t172 0 (wrap64 (t172 - 1))) = some r := H
 have A6 := Aside0.mk A60
 clear A60
 have H' := Aside0.mk H
 clear H
 go_enter Try.func77, Try.ntmps77
 go_wp2_with (first | ((with_reducible refine gate_callee (f := 90) rfl ?_); refine goesL_ (some 13) rfl rfl Try.func90 (by kernel_rfl) rfl #[.int .u64 a0, .int .u64 a2] rfl (by (try simp only [List.map_toArray, List.map_cons, List.map_nil]); first | done | rfl | (simp only [tb_wrap8]; done) | (simp only [tb_wrap8]; rfl) | (simp only [List.length_drop, List.length_take]; rfl)) ?_; (with_reducible refine (ring_divMod.calls k a0 a2 t168 t169 _ A4.out).mono ?_); rintro e w' ⟨rfl, ⟨nd, rfl⟩⟩; refine ⟨_, rfl, ?_⟩) | ((with_reducible refine gate_callee (f := 90) rfl ?_); refine goesL_ (some 19) rfl rfl Try.func90 (by kernel_rfl) rfl #[.int .u64 a1, .int .u64 a2] rfl (by (try simp only [List.map_toArray, List.map_cons, List.map_nil]); first | done | rfl | (simp only [tb_wrap8]; done) | (simp only [tb_wrap8]; rfl) | (simp only [List.length_drop, List.length_take]; rfl)) ?_; (with_reducible refine (ring_divMod.calls k a1 a2 t170 t171 _ A5.out).mono ?_); rintro e w' ⟨rfl, ⟨nd, rfl⟩⟩; refine ⟨_, rfl, ?_⟩) | ((with_reducible refine gate_callee (f := 89) rfl ?_); refine goesL_ (some 23) rfl rfl Try.func89 (by kernel_rfl) rfl #[.int .u64 a2] rfl (by (try simp only [List.map_toArray, List.map_cons, List.map_nil]); first | done | rfl | (simp only [tb_wrap8]; done) | (simp only [tb_wrap8]; rfl) | (simp only [List.length_drop, List.length_take]; rfl)) ?_; (with_reducible refine (ring_Degree.calls a2 t172 _ A6.out).mono ?_); rintro e w' ⟨rfl, ⟨nd, rfl⟩⟩; refine ⟨_, rfl, ?_⟩))
 go_loopg [8, 9] k (fun kq v8 v9 w' => ∃ (x8_1 : Int) (x9_1 : Int), v8 = .int .u64 x8_1 ∧ v9 = .int .i64 x9_1 ∧ Aside0 (ring_mulMod.l0 kq t169 t171 a2 t172 x8_1 x9_1 = some r) ∧ Aside0 (kq ≤ k) ∧ Drawn0 w w')
 case atStart => exact ⟨(0), (wrap64 (t172 - 1)), (by first | rfl | (simp; done) | (simp [*]; done)), (by first | rfl | (simp; done) | (simp [*]; done)), H', ⟨Nat.le_refl _⟩, by repeat (first | exact Drawn0.refl _ | apply Drawn0.step)⟩
 case round =>
  clear H'
  try clear p2
  try clear p6
  obtain ⟨x8_1, x9_1, rfl, rfl, HA, HK1, ⟨m1, rfl⟩⟩ := hrel
  cases gk with
  | zero => exact absurd HA.out (by simp [ring_mulMod.l0])
  | succ k1 =>
   have H := HA.out
   clear HA
   simp only [ring_mulMod.l0] at H
   by_cases c7 : x9_1 ≥ 0
   ·rw [if_pos c7] at H
    have c7b0 : decide (0 ≤ x9_1) = true := decide_eq_true c7
    clear c7
    by_cases c8 : 0 ≤ t172
    ·rw [if_pos c8] at H
     have c8b0 := eq_true c8
     have c8b1 : decide (0 ≤ t172) = true := decide_eq_true c8
     clear c8
     obtain ⟨ji9, hji9⟩ : ∃ j_ : Int, (shr .u64 (IntKind.u64.wrap (x8_1 * 2)) t172) = j_ := ⟨_, rfl⟩
     replace H : (if (Go.bits .and .u64 (ji9) 1) = 1 then (if 0 ≤ x9_1 then (if (Go.bits .and .u64 (shr .u64 t171 x9_1) 1) = 1 then (ring_mulMod.l0 k1 t169 t171 a2 t172 (Go.bits .xor .u64 (Go.bits .xor .u64 (IntKind.u64.wrap (x8_1 * 2)) a2) t169) (wrap64 (x9_1 - 1))) else (ring_mulMod.l0 k1 t169 t171 a2 t172 (Go.bits .xor .u64 (IntKind.u64.wrap (x8_1 * 2)) a2) (wrap64 (x9_1 - 1)))) else (none)) else (if 0 ≤ x9_1 then (if (Go.bits .and .u64 (shr .u64 t171 x9_1) 1) = 1 then (ring_mulMod.l0 k1 t169 t171 a2 t172 (Go.bits .xor .u64 (IntKind.u64.wrap (x8_1 * 2)) t169) (wrap64 (x9_1 - 1))) else (ring_mulMod.l0 k1 t169 t171 a2 t172 (IntKind.u64.wrap (x8_1 * 2)) (wrap64 (x9_1 - 1)))) else (none))) = some r := by first | (rw [hji9] at H; exact H) | (simp only [hji9] at H ⊢; exact H)
     have hji9_ : ((IntKind.u64.wrap (x8_1 * 2)) / 2 ^ min t172.toNat 64) = ji9 := hji9
     have hji9z : t172 ≤ 64 → ((IntKind.u64.wrap (x8_1 * 2)) / 2 ^ t172.toNat) = ji9 := shr_small hji9
     by_cases c10 : (Go.bits .and .u64 (ji9) 1) = 1
     ·rw [if_pos c10] at H
      have c10b0 : ((Go.bits .and .u64 (ji9) 1) == 1) = true := beq_iff_eq.mpr c10
      have c10b1 : ((Go.bits .and .u64 (ji9) 1) != 1) = false := bne_eq_false_iff_eq.mpr c10
      clear c10
      by_cases c11 : 0 ≤ x9_1
      ·rw [if_pos c11] at H
       have c11b0 := eq_true c11
       have c11b1 : decide (0 ≤ x9_1) = true := decide_eq_true c11
       clear c11
       obtain ⟨ji12, hji12⟩ : ∃ j_ : Int, (shr .u64 t171 x9_1) = j_ := ⟨_, rfl⟩
       replace H : (if (Go.bits .and .u64 (ji12) 1) = 1 then (ring_mulMod.l0 k1 t169 t171 a2 t172 (Go.bits .xor .u64 (Go.bits .xor .u64 (IntKind.u64.wrap (x8_1 * 2)) a2) t169) (wrap64 (x9_1 - 1))) else (ring_mulMod.l0 k1 t169 t171 a2 t172 (Go.bits .xor .u64 (IntKind.u64.wrap (x8_1 * 2)) a2) (wrap64 (x9_1 - 1)))) = some r := by first | (rw [hji12] at H; exact H) | (simp only [hji12] at H ⊢; exact H)
       have hji12_ : (t171 / 2 ^ min x9_1.toNat 64) = ji12 := hji12
       have hji12z : x9_1 ≤ 64 → (t171 / 2 ^ x9_1.toNat) = ji12 := shr_small hji12
       by_cases c13 : (Go.bits .and .u64 (ji12) 1) = 1
       ·rw [if_pos c13] at H
        have c13b0 : ((Go.bits .and .u64 (ji12) 1) == 1) = true := beq_iff_eq.mpr c13
        have c13b1 : ((Go.bits .and .u64 (ji12) 1) != 1) = false := bne_eq_false_iff_eq.mpr c13
        clear c13
        have H' := Aside0.mk H
        clear H
        go_wp2
        go_roundg k1
        case measure => have := HK1.out; omega
        case rel => exact ⟨(Go.bits .xor .u64 (Go.bits .xor .u64 (IntKind.u64.wrap (x8_1 * 2)) a2) t169), (wrap64 (x9_1 - 1)), (by first | rfl | (simp; done) | (simp [*]; done)), (by first | rfl | (simp; done) | (simp [*]; done)), H', ⟨by have := HK1.out; omega⟩, by repeat (first | exact Drawn0.refl _ | apply Drawn0.step)⟩
       ·rw [if_neg c13] at H
        have c13b0 : ((Go.bits .and .u64 (ji12) 1) == 1) = false := beq_eq_false_iff_ne.mpr c13
        have c13b1 : ((Go.bits .and .u64 (ji12) 1) != 1) = true := bne_iff_ne.mpr c13
        have H' := Aside0.mk H
        clear H
        go_wp2
        go_roundg k1
        case measure => have := HK1.out; omega
        case rel => exact ⟨(Go.bits .xor .u64 (IntKind.u64.wrap (x8_1 * 2)) a2), (wrap64 (x9_1 - 1)), (by first | rfl | (simp; done) | (simp [*]; done)), (by first | rfl | (simp; done) | (simp [*]; done)), H', ⟨by have := HK1.out; omega⟩, by repeat (first | exact Drawn0.refl _ | apply Drawn0.step)⟩
      ·rw [if_neg c11] at H
       exact absurd H (by simp)
     ·rw [if_neg c10] at H
      have c10b0 : ((Go.bits .and .u64 (ji9) 1) == 1) = false := beq_eq_false_iff_ne.mpr c10
      have c10b1 : ((Go.bits .and .u64 (ji9) 1) != 1) = true := bne_iff_ne.mpr c10
      by_cases c14 : 0 ≤ x9_1
      ·rw [if_pos c14] at H
       have c14b0 := eq_true c14
       have c14b1 : decide (0 ≤ x9_1) = true := decide_eq_true c14
       clear c14
       obtain ⟨ji15, hji15⟩ : ∃ j_ : Int, (shr .u64 t171 x9_1) = j_ := ⟨_, rfl⟩
       replace H : (if (Go.bits .and .u64 (ji15) 1) = 1 then (ring_mulMod.l0 k1 t169 t171 a2 t172 (Go.bits .xor .u64 (IntKind.u64.wrap (x8_1 * 2)) t169) (wrap64 (x9_1 - 1))) else (ring_mulMod.l0 k1 t169 t171 a2 t172 (IntKind.u64.wrap (x8_1 * 2)) (wrap64 (x9_1 - 1)))) = some r := by first | (rw [hji15] at H; exact H) | (simp only [hji15] at H ⊢; exact H)
       have hji15_ : (t171 / 2 ^ min x9_1.toNat 64) = ji15 := hji15
       have hji15z : x9_1 ≤ 64 → (t171 / 2 ^ x9_1.toNat) = ji15 := shr_small hji15
       by_cases c16 : (Go.bits .and .u64 (ji15) 1) = 1
       ·rw [if_pos c16] at H
        have c16b0 : ((Go.bits .and .u64 (ji15) 1) == 1) = true := beq_iff_eq.mpr c16
        have c16b1 : ((Go.bits .and .u64 (ji15) 1) != 1) = false := bne_eq_false_iff_eq.mpr c16
        clear c16
        have H' := Aside0.mk H
        clear H
        go_wp2
        go_roundg k1
        case measure => have := HK1.out; omega
        case rel => exact ⟨(Go.bits .xor .u64 (IntKind.u64.wrap (x8_1 * 2)) t169), (wrap64 (x9_1 - 1)), (by first | rfl | (simp; done) | (simp [*]; done)), (by first | rfl | (simp; done) | (simp [*]; done)), H', ⟨by have := HK1.out; omega⟩, by repeat (first | exact Drawn0.refl _ | apply Drawn0.step)⟩
       ·rw [if_neg c16] at H
        have c16b0 : ((Go.bits .and .u64 (ji15) 1) == 1) = false := beq_eq_false_iff_ne.mpr c16
        have c16b1 : ((Go.bits .and .u64 (ji15) 1) != 1) = true := bne_iff_ne.mpr c16
        have H' := Aside0.mk H
        clear H
        go_wp2
        go_roundg k1
        case measure => have := HK1.out; omega
        case rel => exact ⟨(IntKind.u64.wrap (x8_1 * 2)), (wrap64 (x9_1 - 1)), (by first | rfl | (simp; done) | (simp [*]; done)), (by first | rfl | (simp; done) | (simp [*]; done)), H', ⟨by have := HK1.out; omega⟩, by repeat (first | exact Drawn0.refl _ | apply Drawn0.step)⟩
      ·rw [if_neg c14] at H
       exact absurd H (by simp)
    ·rw [if_neg c8] at H
     exact absurd H (by simp)
   ·rw [if_neg c7] at H
    have c7b0 : decide (0 ≤ x9_1) = false := decide_eq_false c7
    clear c7
    obtain rfl := Option.some.inj H
    go_wp2
    go_ret
    exact ⟨by first | rfl | (simp; done) | (simp [*]; done), by repeat (first | exact Drawn0.refl _ | apply Drawn0.step)⟩

/-! ### ring_MulMod: function 55 -/
def ring_MulMod.f (k : Nat) (a0 : Int) (a1 : Int) (a2 : Int) : Option (Int × Int) := (ring_isModulus.f a2 32).bind fun t173 => (if t173 = true then ((ring_mulMod.f k a0 a1 a2).bind fun t174 => (some (t174, 0))) else (some (0, 11)))
theorem ring_MulMod.mono : ∀ a0 a1 a2 k, LeO (ring_MulMod.f k a0 a1 a2) (ring_MulMod.f (k + 1) a0 a1 a2) := by
 intro a0 a1 a2 k
 unfold ring_MulMod.f
 repeat' first
   | (with_reducible exact ring_mulMod.mono _ _ _ _)
   | (with_reducible exact LeO.refl _)
   | (with_reducible exact LeO.none _)
   | (with_reducible refine LeO.ite ?_ ?_)
   | (with_reducible refine LeO.bind ?_ (fun _ => ?_))
   | exact ring_mulMod.mono _ _ _ _
   | exact LeO.none _
   | refine LeO.ite ?_ ?_
   | refine LeO.bind ?_ (fun _ => ?_)
set_option maxHeartbeats 8000000 in
set_option maxRecDepth 100000 in
theorem ring_MulMod.calls (k : Nat) (a0 : Int) (a1 : Int) (a2 : Int) (r1 : Int) (r2 : Int) (w : World) (h : ring_MulMod.f k a0 a1 a2 = some (r1, r2)) :
  Calls Try.prog 55 #[.int .u64 a0, .int .u64 a1, .int .u64 a2] w fun e w' => e = .returned (.tuple #[.int .u64 r1, .int .i64 r2]) ∧ Drawn0 w w' := by
 have H : ((ring_isModulus.f a2 32).bind fun t173 => (if t173 = true then ((ring_mulMod.f k a0 a1 a2).bind fun t174 => (some (t174, 0))) else (some (0, 11)))) = some (r1, r2) := h
 clear h
 replace H := Option.bind_eq_some_iff.mp H
 obtain ⟨t173, A40, H⟩ := H
 replace H : (if t173 = true then ((ring_mulMod.f k a0 a1 a2).bind fun t174 => (some (t174, 0))) else (some (0, 11))) = some (r1, r2) := H
 have A4 := Aside0.mk A40
 clear A40
 by_cases c5 : t173 = true
 ·subst c5
  have H1 : ((ring_mulMod.f k a0 a1 a2).bind fun t174 => (some (t174, 0))) = some (r1, r2) := by rw [if_pos rfl] at H; exact H
  clear H
  have H := H1
  clear H1
  replace H := Option.bind_eq_some_iff.mp H
  obtain ⟨t174, A60, H⟩ := H
  replace H : (some (t174, 0)) = some (r1, r2) := H
  have A6 := Aside0.mk A60
  clear A60
  simp only [Option.some.injEq, Prod.mk.injEq] at H
  obtain ⟨rfl, rfl⟩ := H
  go_enter Try.func55, Try.ntmps55
  go_wp2_with (first | ((with_reducible refine gate_callee (f := 76) rfl ?_); refine goesL_ (some 9) rfl rfl Try.func76 (by kernel_rfl) rfl #[.int .u64 a2, .int .i64 32] rfl (by (try simp only [List.map_toArray, List.map_cons, List.map_nil]); first | done | rfl | (simp only [tb_wrap8]; done) | (simp only [tb_wrap8]; rfl) | (simp only [List.length_drop, List.length_take]; rfl)) ?_; (with_reducible refine (ring_isModulus.calls a2 32 true _ A4.out).mono ?_); rintro e w' ⟨rfl, ⟨nd, rfl⟩⟩; refine ⟨_, rfl, ?_⟩) | ((with_reducible refine gate_callee (f := 77) rfl ?_); refine goesL_ (some 14) rfl rfl Try.func77 (by kernel_rfl) rfl #[.int .u64 a0, .int .u64 a1, .int .u64 a2] rfl (by (try simp only [List.map_toArray, List.map_cons, List.map_nil]); first | done | rfl | (simp only [tb_wrap8]; done) | (simp only [tb_wrap8]; rfl) | (simp only [List.length_drop, List.length_take]; rfl)) ?_; (with_reducible refine (ring_mulMod.calls k a0 a1 a2 t174 _ A6.out).mono ?_); rintro e w' ⟨rfl, ⟨nd, rfl⟩⟩; refine ⟨_, rfl, ?_⟩))
  go_ret2
  exact ⟨by first | rfl | (simp; done) | (simp [*]; done), by repeat (first | exact Drawn0.refl _ | apply Drawn0.step)⟩
 ·replace c5 := Bool.eq_false_iff.mpr c5
  subst c5
  have H1 : (some (0, 11)) = some (r1, r2) := by rw [if_neg (show ¬ (false = true) by decide)] at H; exact H
  clear H
  have H := H1
  clear H1
  simp only [Option.some.injEq, Prod.mk.injEq] at H
  obtain ⟨rfl, rfl⟩ := H
  go_enter Try.func55, Try.ntmps55
  go_wp2_with (first | ((with_reducible refine gate_callee (f := 76) rfl ?_); refine goesL_ (some 9) rfl rfl Try.func76 (by kernel_rfl) rfl #[.int .u64 a2, .int .i64 32] rfl (by (try simp only [List.map_toArray, List.map_cons, List.map_nil]); first | done | rfl | (simp only [tb_wrap8]; done) | (simp only [tb_wrap8]; rfl) | (simp only [List.length_drop, List.length_take]; rfl)) ?_; (with_reducible refine (ring_isModulus.calls a2 32 false _ A4.out).mono ?_); rintro e w' ⟨rfl, ⟨nd, rfl⟩⟩; refine ⟨_, rfl, ?_⟩))
  go_ret2
  exact ⟨by first | rfl | (simp; done) | (simp [*]; done), by repeat (first | exact Drawn0.refl _ | apply Drawn0.step)⟩

/-! ### gf16_Mul: function 27 -/
def gf16_Mul.f (k : Nat) (a0 : Int) (a1 : Int) : Option (Int) := (ring_MulMod.f k (IntKind.u64.wrap (a0)) (IntKind.u64.wrap (a1)) 65581).bind fun bt175 => (some (IntKind.u16.wrap (bt175.1)))
theorem gf16_Mul.mono : ∀ a0 a1 k, LeO (gf16_Mul.f k a0 a1) (gf16_Mul.f (k + 1) a0 a1) := by
 intro a0 a1 k
 unfold gf16_Mul.f
 repeat' first
   | (with_reducible exact ring_MulMod.mono _ _ _ _)
   | (with_reducible exact LeO.refl _)
   | (with_reducible exact LeO.none _)
   | (with_reducible refine LeO.ite ?_ ?_)
   | (with_reducible refine LeO.bind ?_ (fun _ => ?_))
   | exact ring_MulMod.mono _ _ _ _
   | exact LeO.none _
   | refine LeO.ite ?_ ?_
   | refine LeO.bind ?_ (fun _ => ?_)
set_option maxHeartbeats 8000000 in
set_option maxRecDepth 100000 in
theorem gf16_Mul.calls (k : Nat) (a0 : Int) (a1 : Int) (r : Int) (w : World) (h : gf16_Mul.f k a0 a1 = some r) :
  Calls Try.prog 27 #[.int .u16 a0, .int .u16 a1] w fun e w' => e = .returned (.int .u16 r) ∧ Drawn0 w w' := by
 have H : ((ring_MulMod.f k (IntKind.u64.wrap (a0)) (IntKind.u64.wrap (a1)) 65581).bind fun bt175 => (some (IntKind.u16.wrap (bt175.1)))) = some r := h
 clear h
 replace H := Option.bind_eq_some_iff.mp H
 obtain ⟨⟨t175, t176⟩, A30, H⟩ := H
 replace H : (some (IntKind.u16.wrap (t175))) = some r := H
 have A3 := Aside0.mk A30
 clear A30
 obtain rfl := Option.some.inj H
 go_enter Try.func27, Try.ntmps27
 go_wp2_with (first | ((with_reducible refine gate_callee (f := 55) rfl ?_); refine goesL_ (some 12) rfl rfl Try.func55 (by kernel_rfl) rfl #[.int .u64 (IntKind.u64.wrap (a0)), .int .u64 (IntKind.u64.wrap (a1)), .int .u64 65581] rfl (by (try simp only [List.map_toArray, List.map_cons, List.map_nil]); first | done | rfl | (simp only [tb_wrap8]; done) | (simp only [tb_wrap8]; rfl) | (simp only [List.length_drop, List.length_take]; rfl)) ?_; (with_reducible refine (ring_MulMod.calls k (IntKind.u64.wrap (a0)) (IntKind.u64.wrap (a1)) 65581 t175 t176 _ A3.out).mono ?_); rintro e w' ⟨rfl, ⟨nd, rfl⟩⟩; refine ⟨_, rfl, ?_⟩))
 go_ret
 exact ⟨by first | rfl | (simp; done) | (simp [*]; done), by repeat (first | exact Drawn0.refl _ | apply Drawn0.step)⟩

/-! ### ring_InvMod: function 88 -/
def ring_InvMod.l0 : Nat → Int → Int → Int → Int → Int → Option (Int × Int)
 | 0, _, _, _, _, _ => none
 | k + 1, x1, x7, x8, x9, x10 => if x7 = 0 then (if x8 = 1 then ((ring_divMod.f k x9 x1).bind fun bt180 => (some (bt180.2, 0))) else (some (0, 12))) else ((ring_divMod.f k x8 x7).bind fun bt182 => ((ring_mulMod.f k bt182.1 x10 x1).bind fun t184 => (ring_InvMod.l0 k x1 bt182.2 x7 x10 (Go.bits .xor .u64 x9 t184))))
def ring_InvMod.f (k : Nat) (a0 : Int) (a1 : Int) : Option (Int × Int) := (ring_isModulus.f a1 32).bind fun t177 => (if t177 = true then ((ring_divMod.f k a0 a1).bind fun bt178 => (ring_InvMod.l0 k a1 bt178.2 a1 0 1)) else (some (0, 11)))
theorem ring_InvMod.mono_l : ∀ k, (∀ y0 y1 y2 y3 y4, LeO (ring_InvMod.l0 k y0 y1 y2 y3 y4) (ring_InvMod.l0 (k + 1) y0 y1 y2 y3 y4))
 | 0 => fun _ _ _ _ _ r h => by simp [ring_InvMod.l0] at h
 | k + 1 => by
  have ih0 := ring_InvMod.mono_l k
  ·intro y0 y1 y2 y3 y4
   unfold ring_InvMod.l0
   repeat' first
   | (with_reducible exact ih0 _ _ _ _ _)
   | (with_reducible exact ring_divMod.mono _ _ _)
   | (with_reducible exact ring_mulMod.mono _ _ _ _)
   | (with_reducible exact LeO.refl _)
   | (with_reducible exact LeO.none _)
   | (with_reducible refine LeO.ite ?_ ?_)
   | (with_reducible refine LeO.bind ?_ (fun _ => ?_))
   | exact ih0 _ _ _ _ _
   | exact ring_divMod.mono _ _ _
   | exact ring_mulMod.mono _ _ _ _
   | exact LeO.none _
   | refine LeO.ite ?_ ?_
   | refine LeO.bind ?_ (fun _ => ?_)
theorem ring_InvMod.mono : ∀ a0 a1 k, LeO (ring_InvMod.f k a0 a1) (ring_InvMod.f (k + 1) a0 a1) := by
 intro a0 a1 k
 have ih0 := ring_InvMod.mono_l k
 unfold ring_InvMod.f
 repeat' first
   | (with_reducible exact ih0 _ _ _ _ _)
   | (with_reducible exact ring_divMod.mono _ _ _)
   | (with_reducible exact ring_mulMod.mono _ _ _ _)
   | (with_reducible exact LeO.refl _)
   | (with_reducible exact LeO.none _)
   | (with_reducible refine LeO.ite ?_ ?_)
   | (with_reducible refine LeO.bind ?_ (fun _ => ?_))
   | exact ih0 _ _ _ _ _
   | exact ring_divMod.mono _ _ _
   | exact ring_mulMod.mono _ _ _ _
   | exact LeO.none _
   | refine LeO.ite ?_ ?_
   | refine LeO.bind ?_ (fun _ => ?_)
set_option maxHeartbeats 8000000 in
set_option maxRecDepth 100000 in
theorem ring_InvMod.calls (k : Nat) (a0 : Int) (a1 : Int) (r1 : Int) (r2 : Int) (w : World) (h : ring_InvMod.f k a0 a1 = some (r1, r2)) :
  Calls Try.prog 88 #[.int .u64 a0, .int .u64 a1] w fun e w' => e = .returned (.tuple #[.int .u64 r1, .int .i64 r2]) ∧ Drawn0 w w' := by
 have H : ((ring_isModulus.f a1 32).bind fun t177 => (if t177 = true then ((ring_divMod.f k a0 a1).bind fun bt178 => (ring_InvMod.l0 k a1 bt178.2 a1 0 1)) else (some (0, 11)))) = some (r1, r2) := h
 clear h
 replace H := Option.bind_eq_some_iff.mp H
 obtain ⟨t177, A30, H⟩ := H
 replace H : (if t177 = true then ((ring_divMod.f k a0 a1).bind fun bt178 => (ring_InvMod.l0 k a1 bt178.2 a1 0 1)) else (some (0, 11))) = some (r1, r2) := H
 have A3 := Aside0.mk A30
 clear A30
 by_cases c4 : t177 = true
 ·subst c4
  have H1 : ((ring_divMod.f k a0 a1).bind fun bt178 => (ring_InvMod.l0 k a1 bt178.2 a1 0 1)) = some (r1, r2) := by rw [if_pos rfl] at H; exact H
  clear H
  have H := H1
  clear H1
  replace H := Option.bind_eq_some_iff.mp H
  obtain ⟨⟨t178, t179⟩, A50, H⟩ := H
  replace H : (ring_InvMod.l0 k a1 t179 a1 0 1) = some (r1, r2) := H
  have A5 := Aside0.mk A50
  clear A50
  have H' := Aside0.mk H
  clear H
  go_enter Try.func88, Try.ntmps88
  go_wp2_with (first | ((with_reducible refine gate_callee (f := 76) rfl ?_); refine goesL_ (some 14) rfl rfl Try.func76 (by kernel_rfl) rfl #[.int .u64 a1, .int .i64 32] rfl (by (try simp only [List.map_toArray, List.map_cons, List.map_nil]); first | done | rfl | (simp only [tb_wrap8]; done) | (simp only [tb_wrap8]; rfl) | (simp only [List.length_drop, List.length_take]; rfl)) ?_; (with_reducible refine (ring_isModulus.calls a1 32 true _ A3.out).mono ?_); rintro e w' ⟨rfl, ⟨nd, rfl⟩⟩; refine ⟨_, rfl, ?_⟩) | ((with_reducible refine gate_callee (f := 90) rfl ?_); refine goesL_ (some 19) rfl rfl Try.func90 (by kernel_rfl) rfl #[.int .u64 a0, .int .u64 a1] rfl (by (try simp only [List.map_toArray, List.map_cons, List.map_nil]); first | done | rfl | (simp only [tb_wrap8]; done) | (simp only [tb_wrap8]; rfl) | (simp only [List.length_drop, List.length_take]; rfl)) ?_; (with_reducible refine (ring_divMod.calls k a0 a1 t178 t179 _ A5.out).mono ?_); rintro e w' ⟨rfl, ⟨nd, rfl⟩⟩; refine ⟨_, rfl, ?_⟩))
  go_loopg [7, 8, 9, 10] k (fun kq v7 v8 v9 v10 w' => ∃ (x7_1 : Int) (x8_1 : Int) (x9_1 : Int) (x10_1 : Int), v7 = .int .u64 x7_1 ∧ v8 = .int .u64 x8_1 ∧ v9 = .int .u64 x9_1 ∧ v10 = .int .u64 x10_1 ∧ Aside0 (ring_InvMod.l0 kq a1 x7_1 x8_1 x9_1 x10_1 = some (r1, r2)) ∧ Aside0 (kq ≤ k) ∧ Drawn0 w w')
  case atStart => exact ⟨(t179), (a1), (0), (1), (by first | rfl | (simp; done) | (simp [*]; done)), (by first | rfl | (simp; done) | (simp [*]; done)), (by first | rfl | (simp; done) | (simp [*]; done)), (by first | rfl | (simp; done) | (simp [*]; done)), H', ⟨Nat.le_refl _⟩, by repeat (first | exact Drawn0.refl _ | apply Drawn0.step)⟩
  case round =>
   clear H'
   try clear p2
   try clear c4
   obtain ⟨x7_1, x8_1, x9_1, x10_1, rfl, rfl, rfl, rfl, HA, HK1, ⟨m1, rfl⟩⟩ := hrel
   cases gk with
   | zero => exact absurd HA.out (by simp [ring_InvMod.l0])
   | succ k1 =>
    have H := HA.out
    clear HA
    simp only [ring_InvMod.l0] at H
    by_cases c6 : x7_1 = 0
    ·rw [if_pos c6] at H
     have c6b0 : (x7_1 == 0) = true := beq_iff_eq.mpr c6
     have c6b1 : (x7_1 != 0) = false := bne_eq_false_iff_eq.mpr c6
     clear c6
     by_cases c7 : x8_1 = 1
     ·rw [if_pos c7] at H
      have c7b0 : (x8_1 == 1) = true := beq_iff_eq.mpr c7
      have c7b1 : (x8_1 != 1) = false := bne_eq_false_iff_eq.mpr c7
      clear c7
      replace H := Option.bind_eq_some_iff.mp H
      obtain ⟨⟨t180, t181⟩, A80, H⟩ := H
      replace H : (some (t181, 0)) = some (r1, r2) := H
      have A8 := Aside0.mk A80
      clear A80
      simp only [Option.some.injEq, Prod.mk.injEq] at H
      obtain ⟨rfl, rfl⟩ := H
      go_wp2_with (first | ((with_reducible refine gate_callee (f := 90) rfl ?_); refine goesL_ (some 45) rfl rfl Try.func90 (by kernel_rfl) rfl #[.int .u64 x9_1, .int .u64 a1] rfl (by (try simp only [List.map_toArray, List.map_cons, List.map_nil]); first | done | rfl | (simp only [tb_wrap8]; done) | (simp only [tb_wrap8]; rfl) | (simp only [List.length_drop, List.length_take]; rfl)) ?_; (with_reducible refine (ring_divMod.calls k1 x9_1 a1 t180 t181 _ A8.out).mono ?_); rintro e w' ⟨rfl, ⟨nd, rfl⟩⟩; refine ⟨_, rfl, ?_⟩))
      go_ret2
      exact ⟨by first | rfl | (simp; done) | (simp [*]; done), by repeat (first | exact Drawn0.refl _ | apply Drawn0.step)⟩
     ·rw [if_neg c7] at H
      have c7b0 : (x8_1 == 1) = false := beq_eq_false_iff_ne.mpr c7
      have c7b1 : (x8_1 != 1) = true := bne_iff_ne.mpr c7
      simp only [Option.some.injEq, Prod.mk.injEq] at H
      obtain ⟨rfl, rfl⟩ := H
      go_wp2
      go_ret2
      exact ⟨by first | rfl | (simp; done) | (simp [*]; done), by repeat (first | exact Drawn0.refl _ | apply Drawn0.step)⟩
    ·rw [if_neg c6] at H
     have c6b0 : (x7_1 == 0) = false := beq_eq_false_iff_ne.mpr c6
     have c6b1 : (x7_1 != 0) = true := bne_iff_ne.mpr c6
     replace H := Option.bind_eq_some_iff.mp H
     obtain ⟨⟨t182, t183⟩, A90, H⟩ := H
     replace H : ((ring_mulMod.f k1 t182 x10_1 a1).bind fun t184 => (ring_InvMod.l0 k1 a1 t183 x7_1 x10_1 (Go.bits .xor .u64 x9_1 t184))) = some (r1, r2) := H
     have A9 := Aside0.mk A90
     clear A90
     replace H := Option.bind_eq_some_iff.mp H
     obtain ⟨t184, A100, H⟩ := H
     replace H : (ring_InvMod.l0 k1 a1 t183 x7_1 x10_1 (Go.bits .xor .u64 x9_1 t184)) = some (r1, r2) := H
     have A10 := Aside0.mk A100
     clear A100
     have H' := Aside0.mk H
     clear H
     go_wp2_with (first | ((with_reducible refine gate_callee (f := 90) rfl ?_); refine goesL_ (some 28) rfl rfl Try.func90 (by kernel_rfl) rfl #[.int .u64 x8_1, .int .u64 x7_1] rfl (by (try simp only [List.map_toArray, List.map_cons, List.map_nil]); first | done | rfl | (simp only [tb_wrap8]; done) | (simp only [tb_wrap8]; rfl) | (simp only [List.length_drop, List.length_take]; rfl)) ?_; (with_reducible refine (ring_divMod.calls k1 x8_1 x7_1 t182 t183 _ A9.out).mono ?_); rintro e w' ⟨rfl, ⟨nd, rfl⟩⟩; refine ⟨_, rfl, ?_⟩) | ((with_reducible refine gate_callee (f := 77) rfl ?_); refine goesL_ (some 38) rfl rfl Try.func77 (by kernel_rfl) rfl #[.int .u64 t182, .int .u64 x10_1, .int .u64 a1] rfl (by (try simp only [List.map_toArray, List.map_cons, List.map_nil]); first | done | rfl | (simp only [tb_wrap8]; done) | (simp only [tb_wrap8]; rfl) | (simp only [List.length_drop, List.length_take]; rfl)) ?_; (with_reducible refine (ring_mulMod.calls k1 t182 x10_1 a1 t184 _ A10.out).mono ?_); rintro e w' ⟨rfl, ⟨nd, rfl⟩⟩; refine ⟨_, rfl, ?_⟩))
     go_roundg k1
     case measure => have := HK1.out; omega
     case rel => exact ⟨(t183), (x7_1), (x10_1), (Go.bits .xor .u64 x9_1 t184), (by first | rfl | (simp; done) | (simp [*]; done)), (by first | rfl | (simp; done) | (simp [*]; done)), (by first | rfl | (simp; done) | (simp [*]; done)), (by first | rfl | (simp; done) | (simp [*]; done)), H', ⟨by have := HK1.out; omega⟩, by repeat (first | exact Drawn0.refl _ | apply Drawn0.step)⟩
 ·replace c4 := Bool.eq_false_iff.mpr c4
  subst c4
  have H1 : (some (0, 11)) = some (r1, r2) := by rw [if_neg (show ¬ (false = true) by decide)] at H; exact H
  clear H
  have H := H1
  clear H1
  simp only [Option.some.injEq, Prod.mk.injEq] at H
  obtain ⟨rfl, rfl⟩ := H
  go_enter Try.func88, Try.ntmps88
  go_wp2_with (first | ((with_reducible refine gate_callee (f := 76) rfl ?_); refine goesL_ (some 14) rfl rfl Try.func76 (by kernel_rfl) rfl #[.int .u64 a1, .int .i64 32] rfl (by (try simp only [List.map_toArray, List.map_cons, List.map_nil]); first | done | rfl | (simp only [tb_wrap8]; done) | (simp only [tb_wrap8]; rfl) | (simp only [List.length_drop, List.length_take]; rfl)) ?_; (with_reducible refine (ring_isModulus.calls a1 32 false _ A3.out).mono ?_); rintro e w' ⟨rfl, ⟨nd, rfl⟩⟩; refine ⟨_, rfl, ?_⟩))
  go_ret2
  exact ⟨by first | rfl | (simp; done) | (simp [*]; done), by repeat (first | exact Drawn0.refl _ | apply Drawn0.step)⟩

/-! ### gf16_Inv: function 73 -/
def gf16_Inv.f (k : Nat) (a0 : Int) : Option (Int × Int) := if a0 = 0 then (some (0, 20)) else ((ring_InvMod.f k (IntKind.u64.wrap (a0)) 65581).bind fun bt185 => (some (IntKind.u16.wrap (bt185.1), 0)))
theorem gf16_Inv.mono : ∀ a0 k, LeO (gf16_Inv.f k a0) (gf16_Inv.f (k + 1) a0) := by
 intro a0 k
 unfold gf16_Inv.f
 repeat' first
   | (with_reducible exact ring_InvMod.mono _ _ _)
   | (with_reducible exact LeO.refl _)
   | (with_reducible exact LeO.none _)
   | (with_reducible refine LeO.ite ?_ ?_)
   | (with_reducible refine LeO.bind ?_ (fun _ => ?_))
   | exact ring_InvMod.mono _ _ _
   | exact LeO.none _
   | refine LeO.ite ?_ ?_
   | refine LeO.bind ?_ (fun _ => ?_)
set_option maxHeartbeats 8000000 in
set_option maxRecDepth 100000 in
theorem gf16_Inv.calls (k : Nat) (a0 : Int) (r1 : Int) (r2 : Int) (w : World) (h : gf16_Inv.f k a0 = some (r1, r2)) :
  Calls Try.prog 73 #[.int .u16 a0] w fun e w' => e = .returned (.tuple #[.int .u16 r1, .int .i64 r2]) ∧ Drawn0 w w' := by
 have H : (if a0 = 0 then (some (0, 20)) else ((ring_InvMod.f k (IntKind.u64.wrap (a0)) 65581).bind fun bt185 => (some (IntKind.u16.wrap (bt185.1), 0)))) = some (r1, r2) := h
 clear h
 by_cases c2 : a0 = 0
 ·rw [if_pos c2] at H
  have c2b0 : (a0 == 0) = true := beq_iff_eq.mpr c2
  have c2b1 : (a0 != 0) = false := bne_eq_false_iff_eq.mpr c2
  clear c2
  simp only [Option.some.injEq, Prod.mk.injEq] at H
  obtain ⟨rfl, rfl⟩ := H
  go_enter Try.func73, Try.ntmps73
  go_wp2
  go_ret2
  exact ⟨by first | rfl | (simp; done) | (simp [*]; done), by repeat (first | exact Drawn0.refl _ | apply Drawn0.step)⟩
 ·rw [if_neg c2] at H
  have c2b0 : (a0 == 0) = false := beq_eq_false_iff_ne.mpr c2
  have c2b1 : (a0 != 0) = true := bne_iff_ne.mpr c2
  replace H := Option.bind_eq_some_iff.mp H
  obtain ⟨⟨t185, t186⟩, A30, H⟩ := H
  replace H : (some (IntKind.u16.wrap (t185), 0)) = some (r1, r2) := H
  have A3 := Aside0.mk A30
  clear A30
  simp only [Option.some.injEq, Prod.mk.injEq] at H
  obtain ⟨rfl, rfl⟩ := H
  go_enter Try.func73, Try.ntmps73
  go_wp2_with (first | ((with_reducible refine gate_callee (f := 88) rfl ?_); refine goesL_ (some 11) rfl rfl Try.func88 (by kernel_rfl) rfl #[.int .u64 (IntKind.u64.wrap (a0)), .int .u64 65581] rfl (by (try simp only [List.map_toArray, List.map_cons, List.map_nil]); first | done | rfl | (simp only [tb_wrap8]; done) | (simp only [tb_wrap8]; rfl) | (simp only [List.length_drop, List.length_take]; rfl)) ?_; (with_reducible refine (ring_InvMod.calls k (IntKind.u64.wrap (a0)) 65581 t185 t186 _ A3.out).mono ?_); rintro e w' ⟨rfl, ⟨nd, rfl⟩⟩; refine ⟨_, rfl, ?_⟩))
  go_ret2
  exact ⟨by first | rfl | (simp; done) | (simp [*]; done), by repeat (first | exact Drawn0.refl _ | apply Drawn0.step)⟩

/-! ### gf16_Div: function 52 -/
def gf16_Div.f (k : Nat) (a0 : Int) (a1 : Int) : Option (Int × Int) := (gf16_Inv.f k a1).bind fun bt187 => (if bt187.2 = 0 then ((gf16_Mul.f k a0 bt187.1).bind fun t189 => (some (t189, 0))) else (some (0, bt187.2)))
theorem gf16_Div.mono : ∀ a0 a1 k, LeO (gf16_Div.f k a0 a1) (gf16_Div.f (k + 1) a0 a1) := by
 intro a0 a1 k
 unfold gf16_Div.f
 repeat' first
   | (with_reducible exact gf16_Inv.mono _ _)
   | (with_reducible exact gf16_Mul.mono _ _ _)
   | (with_reducible exact LeO.refl _)
   | (with_reducible exact LeO.none _)
   | (with_reducible refine LeO.ite ?_ ?_)
   | (with_reducible refine LeO.bind ?_ (fun _ => ?_))
   | exact gf16_Inv.mono _ _
   | exact gf16_Mul.mono _ _ _
   | exact LeO.none _
   | refine LeO.ite ?_ ?_
   | refine LeO.bind ?_ (fun _ => ?_)
set_option maxHeartbeats 8000000 in
set_option maxRecDepth 100000 in
theorem gf16_Div.calls (k : Nat) (a0 : Int) (a1 : Int) (r1 : Int) (r2 : Int) (w : World) (h : gf16_Div.f k a0 a1 = some (r1, r2)) :
  Calls Try.prog 52 #[.int .u16 a0, .int .u16 a1] w fun e w' => e = .returned (.tuple #[.int .u16 r1, .int .i64 r2]) ∧ Drawn0 w w' := by
 have H : ((gf16_Inv.f k a1).bind fun bt187 => (if bt187.2 = 0 then ((gf16_Mul.f k a0 bt187.1).bind fun t189 => (some (t189, 0))) else (some (0, bt187.2)))) = some (r1, r2) := h
 clear h
 replace H := Option.bind_eq_some_iff.mp H
 obtain ⟨⟨t187, t188⟩, A30, H⟩ := H
 replace H : (if t188 = 0 then ((gf16_Mul.f k a0 t187).bind fun t189 => (some (t189, 0))) else (some (0, t188))) = some (r1, r2) := H
 have A3 := Aside0.mk A30
 clear A30
 by_cases c4 : t188 = 0
 ·rw [if_pos c4] at H
  have c4b0 : (t188 == 0) = true := beq_iff_eq.mpr c4
  have c4b1 : (t188 != 0) = false := bne_eq_false_iff_eq.mpr c4
  clear c4
  replace H := Option.bind_eq_some_iff.mp H
  obtain ⟨t189, A50, H⟩ := H
  replace H : (some (t189, 0)) = some (r1, r2) := H
  have A5 := Aside0.mk A50
  clear A50
  simp only [Option.some.injEq, Prod.mk.injEq] at H
  obtain ⟨rfl, rfl⟩ := H
  go_enter Try.func52, Try.ntmps52
  go_wp2_with (first | ((with_reducible refine gate_callee (f := 73) rfl ?_); refine goesL_ (some 10) rfl rfl Try.func73 (by kernel_rfl) rfl #[.int .u16 a1] rfl (by (try simp only [List.map_toArray, List.map_cons, List.map_nil]); first | done | rfl | (simp only [tb_wrap8]; done) | (simp only [tb_wrap8]; rfl) | (simp only [List.length_drop, List.length_take]; rfl)) ?_; (with_reducible refine (gf16_Inv.calls k a1 t187 t188 _ A3.out).mono ?_); rintro e w' ⟨rfl, ⟨nd, rfl⟩⟩; refine ⟨_, rfl, ?_⟩) | ((with_reducible refine gate_callee (f := 27) rfl ?_); refine goesL_ (some 18) rfl rfl Try.func27 (by kernel_rfl) rfl #[.int .u16 a0, .int .u16 t187] rfl (by (try simp only [List.map_toArray, List.map_cons, List.map_nil]); first | done | rfl | (simp only [tb_wrap8]; done) | (simp only [tb_wrap8]; rfl) | (simp only [List.length_drop, List.length_take]; rfl)) ?_; (with_reducible refine (gf16_Mul.calls k a0 t187 t189 _ A5.out).mono ?_); rintro e w' ⟨rfl, ⟨nd, rfl⟩⟩; refine ⟨_, rfl, ?_⟩))
  go_ret2
  exact ⟨by first | rfl | (simp; done) | (simp [*]; done), by repeat (first | exact Drawn0.refl _ | apply Drawn0.step)⟩
 ·rw [if_neg c4] at H
  have c4b0 : (t188 == 0) = false := beq_eq_false_iff_ne.mpr c4
  have c4b1 : (t188 != 0) = true := bne_iff_ne.mpr c4
  simp only [Option.some.injEq, Prod.mk.injEq] at H
  obtain ⟨rfl, rfl⟩ := H
  go_enter Try.func52, Try.ntmps52
  go_wp2_with (first | ((with_reducible refine gate_callee (f := 73) rfl ?_); refine goesL_ (some 10) rfl rfl Try.func73 (by kernel_rfl) rfl #[.int .u16 a1] rfl (by (try simp only [List.map_toArray, List.map_cons, List.map_nil]); first | done | rfl | (simp only [tb_wrap8]; done) | (simp only [tb_wrap8]; rfl) | (simp only [List.length_drop, List.length_take]; rfl)) ?_; (with_reducible refine (gf16_Inv.calls k a1 t187 t188 _ A3.out).mono ?_); rintro e w' ⟨rfl, ⟨nd, rfl⟩⟩; refine ⟨_, rfl, ?_⟩))
  go_ret2
  exact ⟨by first | rfl | (simp; done) | (simp [*]; done), by repeat (first | exact Drawn0.refl _ | apply Drawn0.step)⟩

end Go.Proofs.Ytkdoilmfchlpdaa.A
end
section
-- Printed for this claim by mp.py, a program of its prover, through the kit's print. Lean checks it.
namespace Go.Proofs.Ytkdoilmfchlpdaa.A
open Go.RowKit Go.Proofs.YtkdoilmfchlpdaaW.PrintWords Go.Proofs.YtkdoilmfchlpdaaW.PrintLast Go.Proofs.YtkdoilmfchlpdaaW.PrintMore
attribute [local go_sem] max2_int min2_int max_two min_two max_three min_three max_four min_four   -- for this text's walks alone
set_option linter.unusedVariables false
set_option linter.unusedSimpArgs false

/-! ### gf16_basis: function 70 -/
theorem run_index_array {P : Program} {t e : TypeId} {n : Nat} {cs : Array Value} {k : IntKind} {i : Int} {v : Value} (w : World) (h : P.underlying t = some (.array n e)) (ha : ∀ w, (isAgg e).run P w = .ok false w) (hs : ∀ w, (sizeOf e).run P w = .ok 1 w) (h0 : 0 ≤ i) (h1 : i < n) (hv : cs[i.toNat]? = some v) :
  (Instr.index t (.agg cs) (.int k i)).run P w = .ok v w := by
 simp [Instr.index, run_underlying h, asIntOf, h0, h1, go_sem, part, ha, hs, hv]
/-- The array that gf16_basis answers. -/
def gf16_basis.L : List Int := [1, 44234, 15374, 5694, 50562, 60718, 37196, 16402, 27800, 4312, 27250, 47360, 64952, 64308, 65336, 39198]
def gf16_basis.V : Array Value := (gf16_basis.L.map (Value.int .u16)).toArray
theorem gf16_basis.get (k : Nat) (h : k < 16) : gf16_basis.V[k]? = some (.int .u16 (gf16_basis.L.getD k 0)) := by
 have : k < gf16_basis.L.length := h
 simp [gf16_basis.V, List.getElem?_eq_getElem this]
set_option maxHeartbeats 4000000 in
set_option maxRecDepth 100000 in
theorem gf16_basis.calls (w : World) : Calls Try.prog 70 #[] w fun e w' => e = .returned (.agg gf16_basis.V) ∧ Below w.heap.size w w' := by
 go_enter Try.func70, Try.ntmps70
 go_wp2
 exact bodyPost_ret (v := .agg gf16_basis.V) (by simp [results, Try.results70, go_sem, gf16_basis.V, gf16_basis.L]) rfl ⟨rfl, (Below.refl _ _).alloc (Nat.le_refl _) _⟩

/-! ### gf16_element: function 50 -/
/-- What gf16_element sums up. -/
def gf16_element.sum (i : Int) : Nat → Int
 | 0 => 0
 | n + 1 => if Go.bits .and .i64 (i / 2 ^ n) 1 = 1 then Go.bits .xor .u16 (gf16_element.sum i n) (gf16_basis.L.getD n 0) else gf16_element.sum i n
def gf16_element.f (a0 : Int) : Option (Int) := if 0 ≤ a0 then (if a0 ≤ 65535 then (some (gf16_element.sum a0 16)) else none) else none
set_option maxHeartbeats 4000000 in
set_option maxRecDepth 100000 in
theorem gf16_element.calls (a0 : Int) (r : Int) (w : World) (h : gf16_element.f a0 = some r) :
  Calls Try.prog 50 #[.int .i64 a0] w fun e w' => e = .returned (.int .u16 r) ∧ Below w.heap.size w w' := by
 unfold gf16_element.f at h
 by_cases h0 : 0 ≤ a0
 ·rw [if_pos h0] at h
  by_cases h1 : a0 ≤ 65535
  ·rw [if_pos h1] at h
   have hr := Option.some.inj h
   clear h
   have HR := Aside0.mk hr
   clear hr
   go_enter Try.func50, Try.ntmps50
   go_wp2_with (first | (go_at_call 70; refine (gf16_basis.calls _).mono ?_; rintro e w1 ⟨rfl, hb1⟩))
   go_loop [3, 7] (fun s c => ∃ k : Nat, k ≤ 16 ∧ c = .int .i64 k ∧ s = .int .u16 (gf16_element.sum a0 k)) (fun _ c => 16 - (intOf c).toNat)
   case atStart => exact ⟨0, by omega, rfl, rfl⟩
   case round =>
    obtain ⟨k, hk, rfl, rfl⟩ := hrel
    by_cases hlt : k < 16
    ·have hx := run_index_array (P := Try.prog) (t := 102) (k := .i64) (i := (k : Int)) w1 Try.underlying102 (fun _ => by kernel_rfl) (fun _ => by kernel_rfl) (by omega) (by omega) (by rw [Int.toNat_natCast]; exact gf16_basis.get k hlt)
     have hs : gf16_element.sum a0 (k + 1) = if Go.bits .and .i64 (a0 / 2 ^ k) 1 = 1 then Go.bits .xor .u16 (gf16_element.sum a0 k) (gf16_basis.L.getD k 0) else gf16_element.sum a0 k := rfl
     have HS := Aside0.mk hs
     clear hs
     by_cases hb : Go.bits .and .i64 (a0 / 2 ^ k) 1 = 1
     ·have hbb : (Go.bits .and .i64 (a0 / 2 ^ k) 1 == 1) = true := beq_iff_eq.2 hb
      have HB := Aside0.mk hb
      clear hb
      go_wp2
      go_round
      case rel => exact ⟨k + 1, by omega, by go_num, by rw [HS.out, if_pos HB.out]; first | rfl | simp⟩
      case measure => simp [intOf]; omega
     ·have hbb : (Go.bits .and .i64 (a0 / 2 ^ k) 1 == 1) = false := beq_eq_false_iff_ne.2 hb
      have HB := Aside0.mk hb
      clear hb
      go_wp2
      go_round
      case rel => exact ⟨k + 1, by omega, by go_num, by rw [HS.out, if_neg HB.out]⟩
      case measure => simp [intOf]; omega
    ·have hd : decide ((k : Int) < 16) = false := decide_eq_false (by omega)
     go_wp2
     go_ret
     have hk16 : k = 16 := by omega
     exact ⟨by rw [hk16, HR.out]; first | done | rfl, hb1⟩
  ·rw [if_neg h1] at h; exact absurd h (by simp)
 ·rw [if_neg h0] at h; exact absurd h (by simp)

/-! ### gf16_Element: function 25 -/
def gf16_Element.f (a0 : Int) : Option (Int × Int) := if a0 < 0 then (some (0, 31)) else (if a0 > 65535 then (some (0, 31)) else ((gf16_element.f a0).bind fun t190 => (some (t190, 0))))
set_option maxHeartbeats 8000000 in
set_option maxRecDepth 100000 in
theorem gf16_Element.calls (a0 : Int) (r1 : Int) (r2 : Int) (w : World) (h : gf16_Element.f a0 = some (r1, r2)) :
  Calls Try.prog 25 #[.int .i64 a0] w fun e w' => e = .returned (.tuple #[.int .u16 r1, .int .i64 r2]) ∧ Below w.heap.size w w' := by
 have HB := Aside0.mk (Below.refl w.heap.size w)
 have H : (if a0 < 0 then (some (0, 31)) else (if a0 > 65535 then (some (0, 31)) else ((gf16_element.f a0).bind fun t190 => (some (t190, 0))))) = some (r1, r2) := h
 clear h
 by_cases c2 : a0 < 0
 ·rw [if_pos c2] at H
  have c2b0 : decide (a0 < 0) = true := decide_eq_true c2
  clear c2
  simp only [Option.some.injEq, Prod.mk.injEq] at H
  obtain ⟨rfl, rfl⟩ := H
  go_enter Try.func25, Try.ntmps25
  go_wp2
  go_ret2
  exact ⟨by first | rfl | (simp [errW_none, errW_some] <;> rfl) | (simp [*, errW_none, errW_some] <;> rfl), by repeat (first | (with_reducible first | exact HB.out | apply below_alloc | apply pw_below_drewN | apply below_drew1) | exact HB.out)⟩
 ·rw [if_neg c2] at H
  have c2b0 : decide (a0 < 0) = false := decide_eq_false c2
  clear c2
  by_cases c3 : a0 > 65535
  ·rw [if_pos c3] at H
   have c3b0 : decide (65535 < a0) = true := decide_eq_true c3
   clear c3
   simp only [Option.some.injEq, Prod.mk.injEq] at H
   obtain ⟨rfl, rfl⟩ := H
   go_enter Try.func25, Try.ntmps25
   go_wp2
   go_ret2
   exact ⟨by first | rfl | (simp [errW_none, errW_some] <;> rfl) | (simp [*, errW_none, errW_some] <;> rfl), by repeat (first | (with_reducible first | exact HB.out | apply below_alloc | apply pw_below_drewN | apply below_drew1) | exact HB.out)⟩
  ·rw [if_neg c3] at H
   have c3b0 : decide (65535 < a0) = false := decide_eq_false c3
   clear c3
   replace H := Option.bind_eq_some_iff.mp H
   obtain ⟨t190, A40, H⟩ := H
   replace H : (some (t190, 0)) = some (r1, r2) := H
   have A4 := Aside0.mk A40
   clear A40
   simp only [Option.some.injEq, Prod.mk.injEq] at H
   obtain ⟨rfl, rfl⟩ := H
   go_enter Try.func25, Try.ntmps25
   go_wp2_with (first | ((with_reducible refine gate_callee (f := 50) rfl ?_); refine goesL_ (some 11) rfl rfl Try.func50 (by kernel_rfl) rfl #[.int .i64 a0] rfl (by (try simp only [List.map_toArray, List.map_cons, List.map_nil]); first | done | rfl | (simp only [tb_wrap8]; done) | (simp only [tb_wrap8]; rfl) | (simp only [List.length_drop, List.length_take]; rfl)) ?_; (with_reducible refine (gf16_element.calls a0 t190 _ A4.out).mono ?_); rintro e w5 ⟨rfl, hb⟩; refine ⟨_, rfl, ?_⟩; have n0_ := Aside0.mk (below_step (by repeat (first | (with_reducible first | exact HB.out | apply below_alloc | apply pw_below_drewN | apply below_drew1) | exact HB.out)) hb); clear HB; have HB := n0_; clear n0_; (try clear hb); (try clear hb2); (try clear hk); (try clear hi)))
   go_ret2
   exact ⟨by first | rfl | (simp [errW_none, errW_some] <;> rfl) | (simp [*, errW_none, errW_some] <;> rfl), by repeat (first | (with_reducible first | exact HB.out | apply below_alloc | apply pw_below_drewN | apply below_drew1) | exact HB.out)⟩

end Go.Proofs.Ytkdoilmfchlpdaa.A
end
section
-- Printed for this claim by mp.py, a program of its prover, through the kit's print. Lean checks it.
namespace Go.Proofs.Ytkdoilmfchlpdaa.A
open Go.RowKit Go.Proofs.YtkdoilmfchlpdaaW.PrintWords Go.Proofs.YtkdoilmfchlpdaaW.PrintLast Go.Proofs.YtkdoilmfchlpdaaW.PrintMore
attribute [local go_sem] max2_int min2_int max_two min_two max_three min_three max_four min_four   -- for this text's walks alone
set_option linter.unusedVariables false
set_option linter.unusedSimpArgs false

/-! ### culletref03_Mul: function 85 -/
mutual
def culletref03_Mul.l0 : Nat → Int → Int → Int → Int → Option (Int)
 | 0, _, _, _, _ => none
 | k + 1, x0, x1, x5, x6 => if x6 < 16 then (if 0 ≤ (IntKind.u64.wrap (x6)) then (if (Go.bits .and .u16 (shr .u16 x1 (IntKind.u64.wrap (x6))) 1) = 1 then (culletref03_Mul.l0 k x0 x1 (Go.bits .xor .u32 x5 (shl .u32 ((x0) % 4294967296) (IntKind.u64.wrap (x6)))) (wrap64 (x6 + 1))) else (culletref03_Mul.l0 k x0 x1 x5 (wrap64 (x6 + 1)))) else (none)) else (culletref03_Mul.l1 k x5 30)
def culletref03_Mul.l1 : Nat → Int → Int → Option (Int)
 | 0, _, _ => none
 | k + 1, x5, x7 => if x7 ≥ 16 then (if 0 ≤ (IntKind.u64.wrap (x7)) then (if (Go.bits .and .u32 (shr .u32 x5 (IntKind.u64.wrap (x7))) 1) = 1 then (if 0 ≤ (IntKind.u64.wrap (wrap64 (x7 - 16))) then (culletref03_Mul.l1 k (Go.bits .xor .u32 x5 (shl .u32 65581 (IntKind.u64.wrap (wrap64 (x7 - 16))))) (wrap64 (x7 - 1))) else (none)) else (culletref03_Mul.l1 k x5 (wrap64 (x7 - 1)))) else (none)) else (some (IntKind.u16.wrap (x5)))
end
def culletref03_Mul.f (k : Nat) (a0 : Int) (a1 : Int) : Option (Int) := culletref03_Mul.l0 k a0 a1 0 0
theorem culletref03_Mul.mono_l : ∀ k, (∀ y0 y1 y2 y3, LeO (culletref03_Mul.l0 k y0 y1 y2 y3) (culletref03_Mul.l0 (k + 1) y0 y1 y2 y3)) ∧ (∀ y0 y1, LeO (culletref03_Mul.l1 k y0 y1) (culletref03_Mul.l1 (k + 1) y0 y1))
 | 0 => ⟨fun _ _ _ _ r h => by simp [culletref03_Mul.l0] at h, fun _ _ r h => by simp [culletref03_Mul.l1] at h⟩
 | k + 1 => by
  obtain ⟨ih0, ih1⟩ := culletref03_Mul.mono_l k
  refine ⟨?_, ?_⟩
  ·intro y0 y1 y2 y3
   unfold culletref03_Mul.l0
   repeat' first
   | (with_reducible exact ih0 _ _ _ _)
   | (with_reducible exact ih1 _ _)
   | (with_reducible exact LeO.refl _)
   | (with_reducible exact LeO.none _)
   | (with_reducible refine LeO.ite ?_ ?_)
   | (with_reducible refine LeO.bind ?_ (fun _ => ?_))
   | exact ih0 _ _ _ _
   | exact ih1 _ _
   | exact LeO.none _
   | refine LeO.ite ?_ ?_
   | refine LeO.bind ?_ (fun _ => ?_)
  ·intro y0 y1
   unfold culletref03_Mul.l1
   repeat' first
   | (with_reducible exact ih0 _ _ _ _)
   | (with_reducible exact ih1 _ _)
   | (with_reducible exact LeO.refl _)
   | (with_reducible exact LeO.none _)
   | (with_reducible refine LeO.ite ?_ ?_)
   | (with_reducible refine LeO.bind ?_ (fun _ => ?_))
   | exact ih0 _ _ _ _
   | exact ih1 _ _
   | exact LeO.none _
   | refine LeO.ite ?_ ?_
   | refine LeO.bind ?_ (fun _ => ?_)
theorem culletref03_Mul.mono : ∀ a0 a1 k, LeO (culletref03_Mul.f k a0 a1) (culletref03_Mul.f (k + 1) a0 a1) := by
 intro a0 a1 k
 obtain ⟨ih0, ih1⟩ := culletref03_Mul.mono_l k
 unfold culletref03_Mul.f
 repeat' first
   | (with_reducible exact ih0 _ _ _ _)
   | (with_reducible exact ih1 _ _)
   | (with_reducible exact LeO.refl _)
   | (with_reducible exact LeO.none _)
   | (with_reducible refine LeO.ite ?_ ?_)
   | (with_reducible refine LeO.bind ?_ (fun _ => ?_))
   | exact ih0 _ _ _ _
   | exact ih1 _ _
   | exact LeO.none _
   | refine LeO.ite ?_ ?_
   | refine LeO.bind ?_ (fun _ => ?_)
set_option maxHeartbeats 8000000 in
set_option maxRecDepth 100000 in
theorem culletref03_Mul.calls (k : Nat) (a0 : Int) (a1 : Int) (r : Int) (w : World) (h : culletref03_Mul.f k a0 a1 = some r) :
  Calls Try.prog 85 #[.int .u16 a0, .int .u16 a1] w fun e w' => e = .returned (.int .u16 r) ∧ Drawn0 w w' := by
 have H : (culletref03_Mul.l0 k a0 a1 0 0) = some r := h
 clear h
 have H' := Aside0.mk H
 clear H
 go_enter Try.func85, Try.ntmps85
 go_wp2
 go_loopg [5, 6] k (fun kq v5 v6 w' => ∃ (x5_1 : Int) (x6_1 : Int), v5 = .int .u32 x5_1 ∧ v6 = .int .i64 x6_1 ∧ Aside0 (culletref03_Mul.l0 kq a0 a1 x5_1 x6_1 = some r) ∧ Aside0 (kq ≤ k) ∧ Drawn0 w w')
 case atStart => exact ⟨(0), (0), (by first | rfl | (simp; done) | (simp [*]; done)), (by first | rfl | (simp; done) | (simp [*]; done)), H', ⟨Nat.le_refl _⟩, by repeat (first | exact Drawn0.refl _ | apply Drawn0.step)⟩
 case round =>
  clear H'
  try clear p2
  obtain ⟨x5_1, x6_1, rfl, rfl, HA, HK1, ⟨m1, rfl⟩⟩ := hrel
  cases gk with
  | zero => exact absurd HA.out (by simp [culletref03_Mul.l0])
  | succ k1 =>
   have H := HA.out
   clear HA
   simp only [culletref03_Mul.l0] at H
   by_cases c3 : x6_1 < 16
   ·rw [if_pos c3] at H
    have c3b0 : decide (x6_1 < 16) = true := decide_eq_true c3
    clear c3
    obtain ⟨ji4, hji4⟩ : ∃ j_ : Int, (IntKind.u64.wrap (x6_1)) = j_ := ⟨_, rfl⟩
    replace H : (if 0 ≤ (ji4) then (if (Go.bits .and .u16 (shr .u16 a1 (ji4)) 1) = 1 then (culletref03_Mul.l0 k1 a0 a1 (Go.bits .xor .u32 x5_1 (shl .u32 ((a0) % 4294967296) (ji4))) (wrap64 (x6_1 + 1))) else (culletref03_Mul.l0 k1 a0 a1 x5_1 (wrap64 (x6_1 + 1)))) else (none)) = some r := by first | (rw [hji4] at H; exact H) | (simp only [hji4] at H ⊢; exact H)
    by_cases c5 : 0 ≤ (ji4)
    ·rw [if_pos c5] at H
     have c5b0 := eq_true c5
     have c5b1 : decide (0 ≤ (ji4)) = true := decide_eq_true c5
     clear c5
     obtain ⟨ji6, hji6⟩ : ∃ j_ : Int, (shr .u16 a1 (ji4)) = j_ := ⟨_, rfl⟩
     replace H : (if (Go.bits .and .u16 (ji6) 1) = 1 then (culletref03_Mul.l0 k1 a0 a1 (Go.bits .xor .u32 x5_1 (shl .u32 ((a0) % 4294967296) (ji4))) (wrap64 (x6_1 + 1))) else (culletref03_Mul.l0 k1 a0 a1 x5_1 (wrap64 (x6_1 + 1)))) = some r := by first | (rw [hji6] at H; exact H) | (simp only [hji6] at H ⊢; exact H)
     have hji6_ : (a1 / 2 ^ min (ji4).toNat 16) = ji6 := hji6
     have hji6z : (ji4) ≤ 16 → (a1 / 2 ^ (ji4).toNat) = ji6 := shr_small hji6
     by_cases c7 : (Go.bits .and .u16 (ji6) 1) = 1
     ·rw [if_pos c7] at H
      have c7b0 : ((Go.bits .and .u16 (ji6) 1) == 1) = true := beq_iff_eq.mpr c7
      have c7b1 : ((Go.bits .and .u16 (ji6) 1) != 1) = false := bne_eq_false_iff_eq.mpr c7
      clear c7
      have c8b0 := eq_true (of_decide_eq_true (by first | (with_reducible assumption) | assumption) : 0 ≤ (ji4))
      obtain ⟨ji9, hji9⟩ : ∃ j_ : Int, (shl .u32 ((a0) % 4294967296) (ji4)) = j_ := ⟨_, rfl⟩
      replace H : (culletref03_Mul.l0 k1 a0 a1 (Go.bits .xor .u32 x5_1 (ji9)) (wrap64 (x6_1 + 1))) = some r := by first | (rw [hji9] at H; exact H) | (simp only [hji9] at H ⊢; exact H)
      have hji9_ : (IntKind.u32.wrap (((a0) % 4294967296) * 2 ^ min (ji4).toNat 32)) = ji9 := hji9
      have hji9z : (ji4) ≤ 32 → (IntKind.u32.wrap (((a0) % 4294967296) * 2 ^ (ji4).toNat)) = ji9 := shl_small hji9
      have H' := Aside0.mk H
      clear H
      go_wp2
      go_roundg k1
      case measure => have := HK1.out; omega
      case rel => exact ⟨(Go.bits .xor .u32 x5_1 (ji9)), (wrap64 (x6_1 + 1)), (by first | rfl | (simp; done) | (simp only [← hji9] <;> (first | rfl | simp)) | (simp [*]; done)), (by first | rfl | (simp; done) | (simp [*]; done)), H', ⟨by have := HK1.out; omega⟩, by repeat (first | exact Drawn0.refl _ | apply Drawn0.step)⟩
     ·rw [if_neg c7] at H
      have c7b0 : ((Go.bits .and .u16 (ji6) 1) == 1) = false := beq_eq_false_iff_ne.mpr c7
      have c7b1 : ((Go.bits .and .u16 (ji6) 1) != 1) = true := bne_iff_ne.mpr c7
      have H' := Aside0.mk H
      clear H
      go_wp2
      go_roundg k1
      case measure => have := HK1.out; omega
      case rel => exact ⟨(x5_1), (wrap64 (x6_1 + 1)), (by first | rfl | (simp; done) | (simp [*]; done)), (by first | rfl | (simp; done) | (simp [*]; done)), H', ⟨by have := HK1.out; omega⟩, by repeat (first | exact Drawn0.refl _ | apply Drawn0.step)⟩
    ·rw [if_neg c5] at H
     exact absurd H (by simp)
   ·rw [if_neg c3] at H
    have c3b0 : decide (x6_1 < 16) = false := decide_eq_false c3
    clear c3
    have H' := Aside0.mk H
    clear H
    go_wp2
    go_loopg [5, 7] k1 (fun kq v5 v7 w' => ∃ (x5_2 : Int) (x7_2 : Int), v5 = .int .u32 x5_2 ∧ v7 = .int .i64 x7_2 ∧ Aside0 (culletref03_Mul.l1 kq x5_2 x7_2 = some r) ∧ Aside0 (kq ≤ k1) ∧ Drawn0 w w')
    case atStart => exact ⟨(x5_1), (30), (by first | rfl | (simp; done) | (simp [*]; done)), (by first | rfl | (simp; done) | (simp [*]; done)), H', ⟨Nat.le_refl _⟩, by repeat (first | exact Drawn0.refl _ | apply Drawn0.step)⟩
    case round =>
     clear H'
     try clear p2
     try clear c3
     try clear c3b0
     try clear c5
     try clear c5b0
     try clear c5b1
     try clear p6
     try clear c7
     try clear c7b0
     try clear c7b1
     try clear c8
     try clear c8b0
     try clear p2
     obtain ⟨x5_2, x7_2, rfl, rfl, HA, HK2, ⟨m2, rfl⟩⟩ := hrel
     cases gk with
     | zero => exact absurd HA.out (by simp [culletref03_Mul.l1])
     | succ k2 =>
      have H := HA.out
      clear HA
      simp only [culletref03_Mul.l1] at H
      by_cases c10 : x7_2 ≥ 16
      ·rw [if_pos c10] at H
       have c10b0 : decide (16 ≤ x7_2) = true := decide_eq_true c10
       clear c10
       obtain ⟨ji11, hji11⟩ : ∃ j_ : Int, (IntKind.u64.wrap (x7_2)) = j_ := ⟨_, rfl⟩
       replace H : (if 0 ≤ (ji11) then (if (Go.bits .and .u32 (shr .u32 x5_2 (ji11)) 1) = 1 then (if 0 ≤ (IntKind.u64.wrap (wrap64 (x7_2 - 16))) then (culletref03_Mul.l1 k2 (Go.bits .xor .u32 x5_2 (shl .u32 65581 (IntKind.u64.wrap (wrap64 (x7_2 - 16))))) (wrap64 (x7_2 - 1))) else (none)) else (culletref03_Mul.l1 k2 x5_2 (wrap64 (x7_2 - 1)))) else (none)) = some r := by first | (rw [hji11] at H; exact H) | (simp only [hji11] at H ⊢; exact H)
       by_cases c12 : 0 ≤ (ji11)
       ·rw [if_pos c12] at H
        have c12b0 := eq_true c12
        have c12b1 : decide (0 ≤ (ji11)) = true := decide_eq_true c12
        clear c12
        obtain ⟨ji13, hji13⟩ : ∃ j_ : Int, (shr .u32 x5_2 (ji11)) = j_ := ⟨_, rfl⟩
        replace H : (if (Go.bits .and .u32 (ji13) 1) = 1 then (if 0 ≤ (IntKind.u64.wrap (wrap64 (x7_2 - 16))) then (culletref03_Mul.l1 k2 (Go.bits .xor .u32 x5_2 (shl .u32 65581 (IntKind.u64.wrap (wrap64 (x7_2 - 16))))) (wrap64 (x7_2 - 1))) else (none)) else (culletref03_Mul.l1 k2 x5_2 (wrap64 (x7_2 - 1)))) = some r := by first | (rw [hji13] at H; exact H) | (simp only [hji13] at H ⊢; exact H)
        have hji13_ : (x5_2 / 2 ^ min (ji11).toNat 32) = ji13 := hji13
        have hji13z : (ji11) ≤ 32 → (x5_2 / 2 ^ (ji11).toNat) = ji13 := shr_small hji13
        by_cases c14 : (Go.bits .and .u32 (ji13) 1) = 1
        ·rw [if_pos c14] at H
         have c14b0 : ((Go.bits .and .u32 (ji13) 1) == 1) = true := beq_iff_eq.mpr c14
         have c14b1 : ((Go.bits .and .u32 (ji13) 1) != 1) = false := bne_eq_false_iff_eq.mpr c14
         clear c14
         obtain ⟨ji15, hji15⟩ : ∃ j_ : Int, (IntKind.u64.wrap (wrap64 (x7_2 - 16))) = j_ := ⟨_, rfl⟩
         replace H : (if 0 ≤ (ji15) then (culletref03_Mul.l1 k2 (Go.bits .xor .u32 x5_2 (shl .u32 65581 (ji15))) (wrap64 (x7_2 - 1))) else (none)) = some r := by first | (rw [hji15] at H; exact H) | (simp only [hji15] at H ⊢; exact H)
         by_cases c16 : 0 ≤ (ji15)
         ·rw [if_pos c16] at H
          have c16b0 := eq_true c16
          have c16b1 : decide (0 ≤ (ji15)) = true := decide_eq_true c16
          clear c16
          obtain ⟨ji17, hji17⟩ : ∃ j_ : Int, (shl .u32 65581 (ji15)) = j_ := ⟨_, rfl⟩
          replace H : (culletref03_Mul.l1 k2 (Go.bits .xor .u32 x5_2 (ji17)) (wrap64 (x7_2 - 1))) = some r := by first | (rw [hji17] at H; exact H) | (simp only [hji17] at H ⊢; exact H)
          have hji17_ : (IntKind.u32.wrap (65581 * 2 ^ min (ji15).toNat 32)) = ji17 := hji17
          have hji17z : (ji15) ≤ 32 → (IntKind.u32.wrap (65581 * 2 ^ (ji15).toNat)) = ji17 := shl_small hji17
          have H' := Aside0.mk H
          clear H
          go_wp2
          go_roundg k2
          case measure => have := HK1.out; have := HK2.out; omega
          case rel => exact ⟨(Go.bits .xor .u32 x5_2 (ji17)), (wrap64 (x7_2 - 1)), (by first | rfl | (simp; done) | (simp only [← hji17] <;> (first | rfl | simp)) | (simp [*]; done)), (by first | rfl | (simp; done) | (simp [*]; done)), H', ⟨by have := HK1.out; have := HK2.out; omega⟩, by repeat (first | exact Drawn0.refl _ | apply Drawn0.step)⟩
         ·rw [if_neg c16] at H
          exact absurd H (by simp)
        ·rw [if_neg c14] at H
         have c14b0 : ((Go.bits .and .u32 (ji13) 1) == 1) = false := beq_eq_false_iff_ne.mpr c14
         have c14b1 : ((Go.bits .and .u32 (ji13) 1) != 1) = true := bne_iff_ne.mpr c14
         have H' := Aside0.mk H
         clear H
         go_wp2
         go_roundg k2
         case measure => have := HK1.out; have := HK2.out; omega
         case rel => exact ⟨(x5_2), (wrap64 (x7_2 - 1)), (by first | rfl | (simp; done) | (simp [*]; done)), (by first | rfl | (simp; done) | (simp [*]; done)), H', ⟨by have := HK1.out; have := HK2.out; omega⟩, by repeat (first | exact Drawn0.refl _ | apply Drawn0.step)⟩
       ·rw [if_neg c12] at H
        exact absurd H (by simp)
      ·rw [if_neg c10] at H
       have c10b0 : decide (16 ≤ x7_2) = false := decide_eq_false c10
       clear c10
       obtain rfl := Option.some.inj H
       go_wp2
       go_ret
       exact ⟨by first | rfl | (simp; done) | (simp [*]; done), by repeat (first | exact Drawn0.refl _ | apply Drawn0.step)⟩

/-! ### culletref03_Power: function 86 -/
def culletref03_Power.l0 : Nat → Int → Int → Int → Option (Int)
 | 0, _, _, _ => none
 | k + 1, x0, x1, x5 => if x1 > 0 then (if (Int.tmod x1 2) = 1 then ((culletref03_Mul.f k x5 x0).bind fun t197 => ((culletref03_Mul.f k x0 x0).bind fun t198 => (culletref03_Power.l0 k t198 (wrap64 (Int.tdiv x1 2)) t197))) else ((culletref03_Mul.f k x0 x0).bind fun t199 => (culletref03_Power.l0 k t199 (wrap64 (Int.tdiv x1 2)) x5))) else (some x5)
def culletref03_Power.f (k : Nat) (a0 : Int) (a1 : Int) : Option (Int) := culletref03_Power.l0 k a0 a1 1
theorem culletref03_Power.mono_l : ∀ k, (∀ y0 y1 y2, LeO (culletref03_Power.l0 k y0 y1 y2) (culletref03_Power.l0 (k + 1) y0 y1 y2))
 | 0 => fun _ _ _ r h => by simp [culletref03_Power.l0] at h
 | k + 1 => by
  have ih0 := culletref03_Power.mono_l k
  ·intro y0 y1 y2
   unfold culletref03_Power.l0
   repeat' first
   | (with_reducible exact ih0 _ _ _)
   | (with_reducible exact culletref03_Mul.mono _ _ _)
   | (with_reducible exact LeO.refl _)
   | (with_reducible exact LeO.none _)
   | (with_reducible refine LeO.ite ?_ ?_)
   | (with_reducible refine LeO.bind ?_ (fun _ => ?_))
   | exact ih0 _ _ _
   | exact culletref03_Mul.mono _ _ _
   | exact LeO.none _
   | refine LeO.ite ?_ ?_
   | refine LeO.bind ?_ (fun _ => ?_)
theorem culletref03_Power.mono : ∀ a0 a1 k, LeO (culletref03_Power.f k a0 a1) (culletref03_Power.f (k + 1) a0 a1) := by
 intro a0 a1 k
 have ih0 := culletref03_Power.mono_l k
 unfold culletref03_Power.f
 repeat' first
   | (with_reducible exact ih0 _ _ _)
   | (with_reducible exact culletref03_Mul.mono _ _ _)
   | (with_reducible exact LeO.refl _)
   | (with_reducible exact LeO.none _)
   | (with_reducible refine LeO.ite ?_ ?_)
   | (with_reducible refine LeO.bind ?_ (fun _ => ?_))
   | exact ih0 _ _ _
   | exact culletref03_Mul.mono _ _ _
   | exact LeO.none _
   | refine LeO.ite ?_ ?_
   | refine LeO.bind ?_ (fun _ => ?_)
set_option maxHeartbeats 8000000 in
set_option maxRecDepth 100000 in
theorem culletref03_Power.calls (k : Nat) (a0 : Int) (a1 : Int) (r : Int) (w : World) (h : culletref03_Power.f k a0 a1 = some r) :
  Calls Try.prog 86 #[.int .u16 a0, .int .i64 a1] w fun e w' => e = .returned (.int .u16 r) ∧ Drawn0 w w' := by
 have H : (culletref03_Power.l0 k a0 a1 1) = some r := h
 clear h
 have H' := Aside0.mk H
 clear H
 go_enter Try.func86, Try.ntmps86
 go_wp2
 go_loopg [0, 1, 5] k (fun kq v0 v1 v5 w' => ∃ (x0_1 : Int) (x1_1 : Int) (x5_1 : Int), v0 = .int .u16 x0_1 ∧ v1 = .int .i64 x1_1 ∧ v5 = .int .u16 x5_1 ∧ Aside0 (culletref03_Power.l0 kq x0_1 x1_1 x5_1 = some r) ∧ Aside0 (kq ≤ k) ∧ Drawn0 w w')
 case atStart => exact ⟨(a0), (a1), (1), (by first | rfl | (simp; done) | (simp [*]; done)), (by first | rfl | (simp; done) | (simp [*]; done)), (by first | rfl | (simp; done) | (simp [*]; done)), H', ⟨Nat.le_refl _⟩, by repeat (first | exact Drawn0.refl _ | apply Drawn0.step)⟩
 case round =>
  clear H'
  try clear p2
  obtain ⟨x0_1, x1_1, x5_1, rfl, rfl, rfl, HA, HK1, ⟨m1, rfl⟩⟩ := hrel
  cases gk with
  | zero => exact absurd HA.out (by simp [culletref03_Power.l0])
  | succ k1 =>
   have H := HA.out
   clear HA
   simp only [culletref03_Power.l0] at H
   by_cases c3 : x1_1 > 0
   ·rw [if_pos c3] at H
    have c3b0 : decide (0 < x1_1) = true := decide_eq_true c3
    clear c3
    by_cases c4 : (Int.tmod x1_1 2) = 1
    ·rw [if_pos c4] at H
     have c4b0 : ((Int.tmod x1_1 2) == 1) = true := beq_iff_eq.mpr c4
     have c4b1 : ((Int.tmod x1_1 2) != 1) = false := bne_eq_false_iff_eq.mpr c4
     clear c4
     replace H := Option.bind_eq_some_iff.mp H
     obtain ⟨t197, A50, H⟩ := H
     replace H : ((culletref03_Mul.f k1 x0_1 x0_1).bind fun t198 => (culletref03_Power.l0 k1 t198 (wrap64 (Int.tdiv x1_1 2)) t197)) = some r := H
     have A5 := Aside0.mk A50
     clear A50
     replace H := Option.bind_eq_some_iff.mp H
     obtain ⟨t198, A60, H⟩ := H
     replace H : (culletref03_Power.l0 k1 t198 (wrap64 (Int.tdiv x1_1 2)) t197) = some r := H
     have A6 := Aside0.mk A60
     clear A60
     have H' := Aside0.mk H
     clear H
     go_wp2_with (first | ((with_reducible refine gate_callee (f := 85) rfl ?_); refine goesL_ (some 13) rfl rfl Try.func85 (by kernel_rfl) rfl #[.int .u16 x5_1, .int .u16 x0_1] rfl (by (try simp only [List.map_toArray, List.map_cons, List.map_nil]); first | done | rfl | (simp only [tb_wrap8]; done) | (simp only [tb_wrap8]; rfl) | (simp only [List.length_drop, List.length_take]; rfl)) ?_; (with_reducible refine (culletref03_Mul.calls k1 x5_1 x0_1 t197 _ A5.out).mono ?_); rintro e w' ⟨rfl, ⟨nd, rfl⟩⟩; refine ⟨_, rfl, ?_⟩) | ((with_reducible refine gate_callee (f := 85) rfl ?_); refine goesL_ (some 16) rfl rfl Try.func85 (by kernel_rfl) rfl #[.int .u16 x0_1, .int .u16 x0_1] rfl (by (try simp only [List.map_toArray, List.map_cons, List.map_nil]); first | done | rfl | (simp only [tb_wrap8]; done) | (simp only [tb_wrap8]; rfl) | (simp only [List.length_drop, List.length_take]; rfl)) ?_; (with_reducible refine (culletref03_Mul.calls k1 x0_1 x0_1 t198 _ A6.out).mono ?_); rintro e w' ⟨rfl, ⟨nd, rfl⟩⟩; refine ⟨_, rfl, ?_⟩))
     go_roundg k1
     case measure => have := HK1.out; omega
     case rel => exact ⟨(t198), (wrap64 (Int.tdiv x1_1 2)), (t197), (by first | rfl | (simp; done) | (simp [*]; done)), (by first | rfl | (simp; done) | (simp [*]; done)), (by first | rfl | (simp; done) | (simp [*]; done)), H', ⟨by have := HK1.out; omega⟩, by repeat (first | exact Drawn0.refl _ | apply Drawn0.step)⟩
    ·rw [if_neg c4] at H
     have c4b0 : ((Int.tmod x1_1 2) == 1) = false := beq_eq_false_iff_ne.mpr c4
     have c4b1 : ((Int.tmod x1_1 2) != 1) = true := bne_iff_ne.mpr c4
     replace H := Option.bind_eq_some_iff.mp H
     obtain ⟨t199, A70, H⟩ := H
     replace H : (culletref03_Power.l0 k1 t199 (wrap64 (Int.tdiv x1_1 2)) x5_1) = some r := H
     have A7 := Aside0.mk A70
     clear A70
     have H' := Aside0.mk H
     clear H
     go_wp2_with (first | ((with_reducible refine gate_callee (f := 85) rfl ?_); refine goesL_ (some 16) rfl rfl Try.func85 (by kernel_rfl) rfl #[.int .u16 x0_1, .int .u16 x0_1] rfl (by (try simp only [List.map_toArray, List.map_cons, List.map_nil]); first | done | rfl | (simp only [tb_wrap8]; done) | (simp only [tb_wrap8]; rfl) | (simp only [List.length_drop, List.length_take]; rfl)) ?_; (with_reducible refine (culletref03_Mul.calls k1 x0_1 x0_1 t199 _ A7.out).mono ?_); rintro e w' ⟨rfl, ⟨nd, rfl⟩⟩; refine ⟨_, rfl, ?_⟩))
     go_roundg k1
     case measure => have := HK1.out; omega
     case rel => exact ⟨(t199), (wrap64 (Int.tdiv x1_1 2)), (x5_1), (by first | rfl | (simp; done) | (simp [*]; done)), (by first | rfl | (simp; done) | (simp [*]; done)), (by first | rfl | (simp; done) | (simp [*]; done)), H', ⟨by have := HK1.out; omega⟩, by repeat (first | exact Drawn0.refl _ | apply Drawn0.step)⟩
   ·rw [if_neg c3] at H
    have c3b0 : decide (0 < x1_1) = false := decide_eq_false c3
    clear c3
    obtain rfl := Option.some.inj H
    go_wp2
    go_ret
    exact ⟨by first | rfl | (simp; done) | (simp [*]; done), by repeat (first | exact Drawn0.refl _ | apply Drawn0.step)⟩

/-! ### culletref03_Div: function 63 -/
def culletref03_Div.f (k : Nat) (a0 : Int) (a1 : Int) : Option (Int × Int) := if a1 = 0 then (some (0, 20)) else ((culletref03_Power.f k a1 65534).bind fun t200 => ((culletref03_Mul.f k a0 t200).bind fun t201 => (some (t201, 0))))
theorem culletref03_Div.mono : ∀ a0 a1 k, LeO (culletref03_Div.f k a0 a1) (culletref03_Div.f (k + 1) a0 a1) := by
 intro a0 a1 k
 unfold culletref03_Div.f
 repeat' first
   | (with_reducible exact culletref03_Mul.mono _ _ _)
   | (with_reducible exact culletref03_Power.mono _ _ _)
   | (with_reducible exact LeO.refl _)
   | (with_reducible exact LeO.none _)
   | (with_reducible refine LeO.ite ?_ ?_)
   | (with_reducible refine LeO.bind ?_ (fun _ => ?_))
   | exact culletref03_Mul.mono _ _ _
   | exact culletref03_Power.mono _ _ _
   | exact LeO.none _
   | refine LeO.ite ?_ ?_
   | refine LeO.bind ?_ (fun _ => ?_)
set_option maxHeartbeats 8000000 in
set_option maxRecDepth 100000 in
theorem culletref03_Div.calls (k : Nat) (a0 : Int) (a1 : Int) (r1 : Int) (r2 : Int) (w : World) (h : culletref03_Div.f k a0 a1 = some (r1, r2)) :
  Calls Try.prog 63 #[.int .u16 a0, .int .u16 a1] w fun e w' => e = .returned (.tuple #[.int .u16 r1, .int .i64 r2]) ∧ Drawn0 w w' := by
 have H : (if a1 = 0 then (some (0, 20)) else ((culletref03_Power.f k a1 65534).bind fun t200 => ((culletref03_Mul.f k a0 t200).bind fun t201 => (some (t201, 0))))) = some (r1, r2) := h
 clear h
 by_cases c3 : a1 = 0
 ·rw [if_pos c3] at H
  have c3b0 : (a1 == 0) = true := beq_iff_eq.mpr c3
  have c3b1 : (a1 != 0) = false := bne_eq_false_iff_eq.mpr c3
  clear c3
  simp only [Option.some.injEq, Prod.mk.injEq] at H
  obtain ⟨rfl, rfl⟩ := H
  go_enter Try.func63, Try.ntmps63
  go_wp2
  go_ret2
  exact ⟨by first | rfl | (simp; done) | (simp [*]; done), by repeat (first | exact Drawn0.refl _ | apply Drawn0.step)⟩
 ·rw [if_neg c3] at H
  have c3b0 : (a1 == 0) = false := beq_eq_false_iff_ne.mpr c3
  have c3b1 : (a1 != 0) = true := bne_iff_ne.mpr c3
  replace H := Option.bind_eq_some_iff.mp H
  obtain ⟨t200, A40, H⟩ := H
  replace H : ((culletref03_Mul.f k a0 t200).bind fun t201 => (some (t201, 0))) = some (r1, r2) := H
  have A4 := Aside0.mk A40
  clear A40
  replace H := Option.bind_eq_some_iff.mp H
  obtain ⟨t201, A50, H⟩ := H
  replace H : (some (t201, 0)) = some (r1, r2) := H
  have A5 := Aside0.mk A50
  clear A50
  simp only [Option.some.injEq, Prod.mk.injEq] at H
  obtain ⟨rfl, rfl⟩ := H
  go_enter Try.func63, Try.ntmps63
  go_wp2_with (first | ((with_reducible refine gate_callee (f := 86) rfl ?_); refine goesL_ (some 10) rfl rfl Try.func86 (by kernel_rfl) rfl #[.int .u16 a1, .int .i64 65534] rfl (by (try simp only [List.map_toArray, List.map_cons, List.map_nil]); first | done | rfl | (simp only [tb_wrap8]; done) | (simp only [tb_wrap8]; rfl) | (simp only [List.length_drop, List.length_take]; rfl)) ?_; (with_reducible refine (culletref03_Power.calls k a1 65534 t200 _ A4.out).mono ?_); rintro e w' ⟨rfl, ⟨nd, rfl⟩⟩; refine ⟨_, rfl, ?_⟩) | ((with_reducible refine gate_callee (f := 85) rfl ?_); refine goesL_ (some 11) rfl rfl Try.func85 (by kernel_rfl) rfl #[.int .u16 a0, .int .u16 t200] rfl (by (try simp only [List.map_toArray, List.map_cons, List.map_nil]); first | done | rfl | (simp only [tb_wrap8]; done) | (simp only [tb_wrap8]; rfl) | (simp only [List.length_drop, List.length_take]; rfl)) ?_; (with_reducible refine (culletref03_Mul.calls k a0 t200 t201 _ A5.out).mono ?_); rintro e w' ⟨rfl, ⟨nd, rfl⟩⟩; refine ⟨_, rfl, ?_⟩))
  go_ret2
  exact ⟨by first | rfl | (simp; done) | (simp [*]; done), by repeat (first | exact Drawn0.refl _ | apply Drawn0.step)⟩

end Go.Proofs.Ytkdoilmfchlpdaa.A
end
section
-- Printed for this claim by mp.py, a program of its prover, through the kit's print. Lean checks it.
namespace Go.Proofs.Ytkdoilmfchlpdaa.A
open Go.RowKit Go.Proofs.YtkdoilmfchlpdaaW.PrintWords Go.Proofs.YtkdoilmfchlpdaaW.PrintLast Go.Proofs.YtkdoilmfchlpdaaW.PrintMore
attribute [local go_sem] max2_int min2_int max_two min_two max_three min_three max_four min_four   -- for this text's walks alone
set_option linter.unusedVariables false
set_option linter.unusedSimpArgs false

/-! ### culletref11_Below: function 58 -/
def culletref11_Below.l0 : Nat → Int → List Int → Int → Int → Option (Bool)
 | 0, _, _, _, _ => none
 | k + 1, x0, x1, x5, x6 => if x6 < (x1.length : Int) then (if 0 ≤ x6 then (if (rd x1 x6) ≤ x5 then (some false) else (if (rd x1 x6) ≥ x0 then (some false) else (culletref11_Below.l0 k x0 x1 (rd x1 x6) (wrap64 (x6 + 1))))) else (none)) else (some true)
def culletref11_Below.f (k : Nat) (a0 : Int) (l1 : List Int) : Option (Bool) := culletref11_Below.l0 k a0 l1 (-1) 0
theorem culletref11_Below.mono_l : ∀ k, (∀ y0 y1 y2 y3, LeO (culletref11_Below.l0 k y0 y1 y2 y3) (culletref11_Below.l0 (k + 1) y0 y1 y2 y3))
 | 0 => fun _ _ _ _ r h => by simp [culletref11_Below.l0] at h
 | k + 1 => by
  have ih0 := culletref11_Below.mono_l k
  ·intro y0 y1 y2 y3
   unfold culletref11_Below.l0
   repeat' first
   | (with_reducible exact ih0 _ _ _ _)
   | (with_reducible exact LeO.refl _)
   | (with_reducible exact LeO.none _)
   | (with_reducible refine LeO.ite ?_ ?_)
   | (with_reducible refine LeO.bind ?_ (fun _ => ?_))
   | exact ih0 _ _ _ _
   | exact LeO.none _
   | refine LeO.ite ?_ ?_
   | refine LeO.bind ?_ (fun _ => ?_)
theorem culletref11_Below.mono : ∀ a0 a1 k, LeO (culletref11_Below.f k a0 a1) (culletref11_Below.f (k + 1) a0 a1) := by
 intro a0 a1 k
 have ih0 := culletref11_Below.mono_l k
 unfold culletref11_Below.f
 repeat' first
   | (with_reducible exact ih0 _ _ _ _)
   | (with_reducible exact LeO.refl _)
   | (with_reducible exact LeO.none _)
   | (with_reducible refine LeO.ite ?_ ?_)
   | (with_reducible refine LeO.bind ?_ (fun _ => ?_))
   | exact ih0 _ _ _ _
   | exact LeO.none _
   | refine LeO.ite ?_ ?_
   | refine LeO.bind ?_ (fun _ => ?_)
set_option maxHeartbeats 8000000 in
set_option maxRecDepth 100000 in
theorem culletref11_Below.calls (k : Nat) (a0 : Int) (A1 : Option Addr) (c1 : Nat) (l1 : List Int) (r : Bool) (w : World) (hr1 : Kd.C (Kd.int .i64) w A1 l1.length l1) (hc1 : l1.length ≤ c1) (h : culletref11_Below.f k a0 l1 = some r) :
  Calls Try.prog 58 #[.int .i64 a0, .slice A1 l1.length c1] w fun e w' => e = .returned (.bool r) ∧ Drawn0 w w' := by
 have HR1 := Aside0.mk hr1
 have HC1 := Aside0.mk hc1
 clear hr1 hc1
 have H : (culletref11_Below.l0 k a0 l1 (-1) 0) = some r := h
 clear h
 have H' := Aside0.mk H
 clear H
 go_enter Try.func58, Try.ntmps58
 go_wp2
 go_loopg [5, 6] k (fun kq v5 v6 w' => ∃ (x5_1 : Int) (x6_1 : Int), v5 = .int .i64 x5_1 ∧ v6 = .int .i64 x6_1 ∧ Aside0 (culletref11_Below.l0 kq a0 l1 x5_1 x6_1 = some r) ∧ Aside0 (kq ≤ k) ∧ Drawn0 w w')
 case atStart => exact ⟨((-1)), (0), (by first | rfl | (simp; done) | (simp [*]; done)), (by first | rfl | (simp; done) | (simp [*]; done)), H', ⟨Nat.le_refl _⟩, by repeat (first | exact Drawn0.refl _ | apply Drawn0.step)⟩
 case round =>
  clear H'
  try clear c1
  try clear p2
  obtain ⟨x5_1, x6_1, rfl, rfl, HA, HK1, ⟨m1, rfl⟩⟩ := hrel
  cases gk with
  | zero => exact absurd HA.out (by simp [culletref11_Below.l0])
  | succ k1 =>
   have H := HA.out
   clear HA
   simp only [culletref11_Below.l0] at H
   by_cases c3 : x6_1 < (l1.length : Int)
   ·rw [if_pos c3] at H
    have c3b0 : decide (x6_1 < (l1.length : Int)) = true := decide_eq_true c3
    clear c3
    by_cases c4 : 0 ≤ x6_1
    ·rw [if_pos c4] at H
     have c4b0 : decide (0 ≤ x6_1) = true := decide_eq_true c4
     clear c4
     by_cases c5 : (rd l1 x6_1) ≤ x5_1
     ·rw [if_pos c5] at H
      have c5b0 : decide ((rd l1 x6_1) ≤ x5_1) = true := decide_eq_true c5
      clear c5
      obtain rfl := Option.some.inj H
      have p202 : 0 ≤ (x6_1 : Int) := of_decide_eq_true (by first | (with_reducible assumption) | assumption)
      have q202 : x6_1 < (l1.length : Int) := of_decide_eq_true (by first | (with_reducible assumption) | assumption)
      obtain ⟨ad202, e202, hx202_0⟩ := Kd.at_int HR1.out x6_1 p202 q202
      cases e202
      replace p202 := eq_true p202
      replace q202 := eq_true q202
      go_wp2
      go_ret
      exact ⟨by first | rfl | (simp; done) | (simp [*]; done), by repeat (first | exact Drawn0.refl _ | apply Drawn0.step)⟩
     ·rw [if_neg c5] at H
      have c5b0 : decide ((rd l1 x6_1) ≤ x5_1) = false := decide_eq_false c5
      clear c5
      by_cases c6 : (rd l1 x6_1) ≥ a0
      ·rw [if_pos c6] at H
       have c6b0 : decide (a0 ≤ (rd l1 x6_1)) = true := decide_eq_true c6
       clear c6
       obtain rfl := Option.some.inj H
       have p202 : 0 ≤ (x6_1 : Int) := of_decide_eq_true (by first | (with_reducible assumption) | assumption)
       have q202 : x6_1 < (l1.length : Int) := of_decide_eq_true (by first | (with_reducible assumption) | assumption)
       obtain ⟨ad202, e202, hx202_0⟩ := Kd.at_int HR1.out x6_1 p202 q202
       cases e202
       replace p202 := eq_true p202
       replace q202 := eq_true q202
       have p203 : 0 ≤ (x6_1 : Int) := of_decide_eq_true (by first | (with_reducible assumption) | assumption)
       have q203 : x6_1 < (l1.length : Int) := of_decide_eq_true (by first | (with_reducible assumption) | assumption)
       obtain ⟨ad203, e203, hx203_0⟩ := Kd.at_int HR1.out x6_1 p203 q203
       obtain rfl : ad202 = ad203 := (by injection e203)
       replace p203 := eq_true p203
       replace q203 := eq_true q203
       go_wp2
       go_ret
       exact ⟨by first | rfl | (simp; done) | (simp [*]; done), by repeat (first | exact Drawn0.refl _ | apply Drawn0.step)⟩
      ·rw [if_neg c6] at H
       have c6b0 : decide (a0 ≤ (rd l1 x6_1)) = false := decide_eq_false c6
       clear c6
       have H' := Aside0.mk H
       clear H
       have p202 : 0 ≤ (x6_1 : Int) := of_decide_eq_true (by first | (with_reducible assumption) | assumption)
       have q202 : x6_1 < (l1.length : Int) := of_decide_eq_true (by first | (with_reducible assumption) | assumption)
       obtain ⟨ad202, e202, hx202_0⟩ := Kd.at_int HR1.out x6_1 p202 q202
       cases e202
       replace p202 := eq_true p202
       replace q202 := eq_true q202
       have p203 : 0 ≤ (x6_1 : Int) := of_decide_eq_true (by first | (with_reducible assumption) | assumption)
       have q203 : x6_1 < (l1.length : Int) := of_decide_eq_true (by first | (with_reducible assumption) | assumption)
       obtain ⟨ad203, e203, hx203_0⟩ := Kd.at_int HR1.out x6_1 p203 q203
       obtain rfl : ad202 = ad203 := (by injection e203)
       replace p203 := eq_true p203
       replace q203 := eq_true q203
       have p204 : 0 ≤ (x6_1 : Int) := of_decide_eq_true (by first | (with_reducible assumption) | assumption)
       have q204 : x6_1 < (l1.length : Int) := of_decide_eq_true (by first | (with_reducible assumption) | assumption)
       obtain ⟨ad204, e204, hx204_0⟩ := Kd.at_int HR1.out x6_1 p204 q204
       obtain rfl : ad202 = ad204 := (by injection e204)
       replace p204 := eq_true p204
       replace q204 := eq_true q204
       go_wp2
       go_roundg k1
       case measure => have := HK1.out; omega
       case rel => exact ⟨(rd l1 x6_1), (wrap64 (x6_1 + 1)), (by first | rfl | (simp; done) | (simp [*]; done)), (by first | rfl | (simp; done) | (simp [*]; done)), H', ⟨by have := HK1.out; omega⟩, by repeat (first | exact Drawn0.refl _ | apply Drawn0.step)⟩
    ·rw [if_neg c4] at H
     exact absurd H (by simp)
   ·rw [if_neg c3] at H
    have c3b0 : decide (x6_1 < (l1.length : Int)) = false := decide_eq_false c3
    clear c3
    obtain rfl := Option.some.inj H
    go_wp2
    go_ret
    exact ⟨by first | rfl | (simp; done) | (simp [*]; done), by repeat (first | exact Drawn0.refl _ | apply Drawn0.step)⟩

/-! ### culletref11_Pow2: function 61 -/
def culletref11_Pow2.l0 : Nat → Int → Int → Option (Int)
 | 0, _, _ => none
 | k + 1, x0, x3 => if x3 < x0 then (culletref11_Pow2.l0 k x0 (wrap64 (2 * x3))) else (some x3)
def culletref11_Pow2.f (k : Nat) (a0 : Int) : Option (Int) := culletref11_Pow2.l0 k a0 1
theorem culletref11_Pow2.mono_l : ∀ k, (∀ y0 y1, LeO (culletref11_Pow2.l0 k y0 y1) (culletref11_Pow2.l0 (k + 1) y0 y1))
 | 0 => fun _ _ r h => by simp [culletref11_Pow2.l0] at h
 | k + 1 => by
  have ih0 := culletref11_Pow2.mono_l k
  ·intro y0 y1
   unfold culletref11_Pow2.l0
   repeat' first
   | (with_reducible exact ih0 _ _)
   | (with_reducible exact LeO.refl _)
   | (with_reducible exact LeO.none _)
   | (with_reducible refine LeO.ite ?_ ?_)
   | (with_reducible refine LeO.bind ?_ (fun _ => ?_))
   | exact ih0 _ _
   | exact LeO.none _
   | refine LeO.ite ?_ ?_
   | refine LeO.bind ?_ (fun _ => ?_)
theorem culletref11_Pow2.mono : ∀ a0 k, LeO (culletref11_Pow2.f k a0) (culletref11_Pow2.f (k + 1) a0) := by
 intro a0 k
 have ih0 := culletref11_Pow2.mono_l k
 unfold culletref11_Pow2.f
 repeat' first
   | (with_reducible exact ih0 _ _)
   | (with_reducible exact LeO.refl _)
   | (with_reducible exact LeO.none _)
   | (with_reducible refine LeO.ite ?_ ?_)
   | (with_reducible refine LeO.bind ?_ (fun _ => ?_))
   | exact ih0 _ _
   | exact LeO.none _
   | refine LeO.ite ?_ ?_
   | refine LeO.bind ?_ (fun _ => ?_)
set_option maxHeartbeats 8000000 in
set_option maxRecDepth 100000 in
theorem culletref11_Pow2.calls (k : Nat) (a0 : Int) (r : Int) (w : World) (h : culletref11_Pow2.f k a0 = some r) :
  Calls Try.prog 61 #[.int .i64 a0] w fun e w' => e = .returned (.int .i64 r) ∧ Drawn0 w w' := by
 have H : (culletref11_Pow2.l0 k a0 1) = some r := h
 clear h
 have H' := Aside0.mk H
 clear H
 go_enter Try.func61, Try.ntmps61
 go_wp2
 go_loopg [3] k (fun kq v3 w' => ∃ (x3_1 : Int), v3 = .int .i64 x3_1 ∧ Aside0 (culletref11_Pow2.l0 kq a0 x3_1 = some r) ∧ Aside0 (kq ≤ k) ∧ Drawn0 w w')
 case atStart => exact ⟨(1), (by first | rfl | (simp; done) | (simp [*]; done)), H', ⟨Nat.le_refl _⟩, by repeat (first | exact Drawn0.refl _ | apply Drawn0.step)⟩
 case round =>
  clear H'
  obtain ⟨x3_1, rfl, HA, HK1, ⟨m1, rfl⟩⟩ := hrel
  cases gk with
  | zero => exact absurd HA.out (by simp [culletref11_Pow2.l0])
  | succ k1 =>
   have H := HA.out
   clear HA
   simp only [culletref11_Pow2.l0] at H
   by_cases c2 : x3_1 < a0
   ·rw [if_pos c2] at H
    have c2b0 : decide (x3_1 < a0) = true := decide_eq_true c2
    clear c2
    have H' := Aside0.mk H
    clear H
    go_wp2
    go_roundg k1
    case measure => have := HK1.out; omega
    case rel => exact ⟨(wrap64 (2 * x3_1)), (by first | rfl | (simp; done) | (simp [*]; done)), H', ⟨by have := HK1.out; omega⟩, by repeat (first | exact Drawn0.refl _ | apply Drawn0.step)⟩
   ·rw [if_neg c2] at H
    have c2b0 : decide (x3_1 < a0) = false := decide_eq_false c2
    clear c2
    obtain rfl := Option.some.inj H
    go_wp2
    go_ret
    exact ⟨by first | rfl | (simp; done) | (simp [*]; done), by repeat (first | exact Drawn0.refl _ | apply Drawn0.step)⟩

end Go.Proofs.Ytkdoilmfchlpdaa.A
end
section
-- Printed for this claim by mp.py, a program of its prover, through the kit's print. Lean checks it.
namespace Go.Proofs.Ytkdoilmfchlpdaa.A
open Go.RowKit Go.Proofs.YtkdoilmfchlpdaaW.PrintWords Go.Proofs.YtkdoilmfchlpdaaW.PrintLast Go.Proofs.YtkdoilmfchlpdaaW.PrintMore
attribute [local go_sem] max2_int min2_int max_two min_two max_three min_three max_four min_four   -- for this text's walks alone
set_option linter.unusedVariables false
set_option linter.unusedSimpArgs false

end Go.Proofs.Ytkdoilmfchlpdaa.A
end
section
-- Printed for this claim by mp.py, a program of its prover, through the kit's print. Lean checks it.
namespace Go.Proofs.Ytkdoilmfchlpdaa.A
open Go.RowKit Go.Proofs.YtkdoilmfchlpdaaW.PrintWords Go.Proofs.YtkdoilmfchlpdaaW.PrintLast Go.Proofs.YtkdoilmfchlpdaaW.PrintMore
attribute [local go_sem] max2_int min2_int max_two min_two max_three min_three max_four min_four   -- for this text's walks alone
set_option linter.unusedVariables false
set_option linter.unusedSimpArgs false

end Go.Proofs.Ytkdoilmfchlpdaa.A
end
section
-- Printed for this claim by mp.py, a program of its prover, through the kit's print. Lean checks it.
namespace Go.Proofs.Ytkdoilmfchlpdaa.A
open Go.RowKit Go.Proofs.YtkdoilmfchlpdaaW.PrintWords Go.Proofs.YtkdoilmfchlpdaaW.PrintLast Go.Proofs.YtkdoilmfchlpdaaW.PrintMore
attribute [local go_sem] max2_int min2_int max_two min_two max_three min_three max_four min_four   -- for this text's walks alone
set_option linter.unusedVariables false
set_option linter.unusedSimpArgs false

end Go.Proofs.Ytkdoilmfchlpdaa.A
end
section
-- Printed for this claim by mp.py, a program of its prover, through the kit's print. Lean checks it.
namespace Go.Proofs.Ytkdoilmfchlpdaa.A
open Go.RowKit Go.Proofs.YtkdoilmfchlpdaaW.PrintWords Go.Proofs.YtkdoilmfchlpdaaW.PrintLast Go.Proofs.YtkdoilmfchlpdaaW.PrintMore
attribute [local go_sem] max2_int min2_int max_two min_two max_three min_three max_four min_four   -- for this text's walks alone
set_option linter.unusedVariables false
set_option linter.unusedSimpArgs false

end Go.Proofs.Ytkdoilmfchlpdaa.A
end
section
-- Printed for this claim by mp.py, a program of its prover, through the kit's print. Lean checks it.
namespace Go.Proofs.Ytkdoilmfchlpdaa.A
open Go.RowKit Go.Proofs.YtkdoilmfchlpdaaW.PrintWords Go.Proofs.YtkdoilmfchlpdaaW.PrintLast Go.Proofs.YtkdoilmfchlpdaaW.PrintMore
attribute [local go_sem] max2_int min2_int max_two min_two max_three min_three max_four min_four   -- for this text's walks alone
set_option linter.unusedVariables false
set_option linter.unusedSimpArgs false

/-! ### gener_numbers: function 46 -/
def gener_numbers.l0 : Nat → List Int → Int → List Int → Int → Int → Option (Bool)
 | 0, _, _, _, _, _ => none
 | k + 1, x0, x1, x7, x8, x9 => if x9 < x8 then (if 0 ≤ x9 then (if x9 < (x7.length : Int) then (if (rd x7 x9) < 0 then (some false) else (if (rd x7 x9) ≥ x1 then (some false) else (if x9 > 0 then (if 0 ≤ (wrap64 (x9 - 1)) then (if (wrap64 (x9 - 1)) < (x0.length : Int) then (if (rd x7 x9) ≤ (rd x0 (wrap64 (x9 - 1))) then (some false) else (gener_numbers.l0 k x0 x1 x7 x8 (wrap64 (x9 + 1)))) else (none)) else (none)) else (gener_numbers.l0 k x0 x1 x7 x8 (wrap64 (x9 + 1)))))) else (none)) else (none)) else (some true)
def gener_numbers.f (k : Nat) (l0 : List Int) (a1 : Int) : Option (Bool) := gener_numbers.l0 k l0 a1 l0 (l0.length : Int) 0
theorem gener_numbers.mono_l : ∀ k, (∀ y0 y1 y2 y3 y4, LeO (gener_numbers.l0 k y0 y1 y2 y3 y4) (gener_numbers.l0 (k + 1) y0 y1 y2 y3 y4))
 | 0 => fun _ _ _ _ _ r h => by simp [gener_numbers.l0] at h
 | k + 1 => by
  have ih0 := gener_numbers.mono_l k
  ·intro y0 y1 y2 y3 y4
   unfold gener_numbers.l0
   repeat' first
   | (with_reducible exact ih0 _ _ _ _ _)
   | (with_reducible exact LeO.refl _)
   | (with_reducible exact LeO.none _)
   | (with_reducible refine LeO.ite ?_ ?_)
   | (with_reducible refine LeO.bind ?_ (fun _ => ?_))
   | exact ih0 _ _ _ _ _
   | exact LeO.none _
   | refine LeO.ite ?_ ?_
   | refine LeO.bind ?_ (fun _ => ?_)
theorem gener_numbers.mono : ∀ a0 a1 k, LeO (gener_numbers.f k a0 a1) (gener_numbers.f (k + 1) a0 a1) := by
 intro a0 a1 k
 have ih0 := gener_numbers.mono_l k
 unfold gener_numbers.f
 repeat' first
   | (with_reducible exact ih0 _ _ _ _ _)
   | (with_reducible exact LeO.refl _)
   | (with_reducible exact LeO.none _)
   | (with_reducible refine LeO.ite ?_ ?_)
   | (with_reducible refine LeO.bind ?_ (fun _ => ?_))
   | exact ih0 _ _ _ _ _
   | exact LeO.none _
   | refine LeO.ite ?_ ?_
   | refine LeO.bind ?_ (fun _ => ?_)
set_option maxHeartbeats 8000000 in
set_option maxRecDepth 100000 in
theorem gener_numbers.calls (k : Nat) (A0 : Option Addr) (c0 : Nat) (l0 : List Int) (a1 : Int) (r : Bool) (w : World) (hr0 : Kd.C (Kd.int .i64) w A0 l0.length l0) (hc0 : l0.length ≤ c0) (h : gener_numbers.f k l0 a1 = some r) :
  Calls Try.prog 46 #[.slice A0 l0.length c0, .int .i64 a1] w fun e w' => e = .returned (.bool r) ∧ Drawn0 w w' := by
 have HR0 := Aside0.mk hr0
 have HC0 := Aside0.mk hc0
 clear hr0 hc0
 have H : (gener_numbers.l0 k l0 a1 l0 (l0.length : Int) 0) = some r := h
 clear h
 have H' := Aside0.mk H
 clear H
 go_enter Try.func46, Try.ntmps46
 go_wp2
 go_loopg [9] k (fun kq v9 w' => ∃ (x9_1 : Int), v9 = .int .i64 x9_1 ∧ Aside0 (gener_numbers.l0 kq l0 a1 l0 (l0.length : Int) x9_1 = some r) ∧ Aside0 (kq ≤ k) ∧ Drawn0 w w')
 case atStart => exact ⟨(0), (by first | rfl | (simp; done) | (simp [*]; done)), H', ⟨Nat.le_refl _⟩, by repeat (first | exact Drawn0.refl _ | apply Drawn0.step)⟩
 case round =>
  clear H'
  try clear p2
  obtain ⟨x9_1, rfl, HA, HK1, ⟨m1, rfl⟩⟩ := hrel
  cases gk with
  | zero => exact absurd HA.out (by simp [gener_numbers.l0])
  | succ k1 =>
   have H := HA.out
   clear HA
   simp only [gener_numbers.l0] at H
   by_cases c3 : x9_1 < (l0.length : Int)
   ·rw [if_pos c3] at H
    have c3b0 : decide (x9_1 < (l0.length : Int)) = true := decide_eq_true c3
    clear c3
    by_cases c4 : 0 ≤ x9_1
    ·rw [if_pos c4] at H
     have c4b0 : decide (0 ≤ x9_1) = true := decide_eq_true c4
     clear c4
     by_cases c5 : x9_1 < (l0.length : Int)
     ·rw [if_pos c5] at H
      have c5b0 : decide (x9_1 < (l0.length : Int)) = true := decide_eq_true c5
      clear c5
      by_cases c6 : (rd l0 x9_1) < 0
      ·rw [if_pos c6] at H
       have c6b0 : decide ((rd l0 x9_1) < 0) = true := decide_eq_true c6
       clear c6
       obtain rfl := Option.some.inj H
       have p239 : 0 ≤ (x9_1 : Int) := of_decide_eq_true (by first | (with_reducible assumption) | assumption)
       have q239 : x9_1 < (l0.length : Int) := of_decide_eq_true (by first | (with_reducible assumption) | assumption)
       obtain ⟨ad239, e239, hx239_0⟩ := Kd.at_int HR0.out x9_1 p239 q239
       cases e239
       replace p239 := eq_true p239
       replace q239 := eq_true q239
       go_wp2
       go_ret
       exact ⟨by first | rfl | (simp; done) | (simp [*]; done), by repeat (first | exact Drawn0.refl _ | apply Drawn0.step)⟩
      ·rw [if_neg c6] at H
       have c6b0 : decide ((rd l0 x9_1) < 0) = false := decide_eq_false c6
       clear c6
       by_cases c7 : (rd l0 x9_1) ≥ a1
       ·rw [if_pos c7] at H
        have c7b0 : decide (a1 ≤ (rd l0 x9_1)) = true := decide_eq_true c7
        clear c7
        obtain rfl := Option.some.inj H
        have p239 : 0 ≤ (x9_1 : Int) := of_decide_eq_true (by first | (with_reducible assumption) | assumption)
        have q239 : x9_1 < (l0.length : Int) := of_decide_eq_true (by first | (with_reducible assumption) | assumption)
        obtain ⟨ad239, e239, hx239_0⟩ := Kd.at_int HR0.out x9_1 p239 q239
        cases e239
        replace p239 := eq_true p239
        replace q239 := eq_true q239
        go_wp2
        go_ret
        exact ⟨by first | rfl | (simp; done) | (simp [*]; done), by repeat (first | exact Drawn0.refl _ | apply Drawn0.step)⟩
       ·rw [if_neg c7] at H
        have c7b0 : decide (a1 ≤ (rd l0 x9_1)) = false := decide_eq_false c7
        clear c7
        by_cases c8 : x9_1 > 0
        ·rw [if_pos c8] at H
         have c8b0 : decide (0 < x9_1) = true := decide_eq_true c8
         clear c8
         obtain ⟨ji9, hji9⟩ : ∃ j_ : Int, (wrap64 (x9_1 - 1)) = j_ := ⟨_, rfl⟩
         replace H : (if 0 ≤ (ji9) then (if (ji9) < (l0.length : Int) then (if (rd l0 x9_1) ≤ (rd l0 (ji9)) then (some false) else (gener_numbers.l0 k1 l0 a1 l0 (l0.length : Int) (wrap64 (x9_1 + 1)))) else (none)) else (none)) = some r := by first | (rw [hji9] at H; exact H) | (simp only [hji9] at H ⊢; exact H)
         have hji9w : (IntKind.i64.wrap (x9_1 - 1)) = ji9 := (i64_w _).trans hji9
         by_cases c10 : 0 ≤ (ji9)
         ·rw [if_pos c10] at H
          have c10b0 : decide (0 ≤ (ji9)) = true := decide_eq_true c10
          clear c10
          by_cases c11 : (ji9) < (l0.length : Int)
          ·rw [if_pos c11] at H
           have c11b0 : decide ((ji9) < (l0.length : Int)) = true := decide_eq_true c11
           clear c11
           by_cases c12 : (rd l0 x9_1) ≤ (rd l0 (ji9))
           ·rw [if_pos c12] at H
            have c12b0 : decide ((rd l0 x9_1) ≤ (rd l0 (ji9))) = true := decide_eq_true c12
            clear c12
            obtain rfl := Option.some.inj H
            have p239 : 0 ≤ (x9_1 : Int) := of_decide_eq_true (by first | (with_reducible assumption) | assumption)
            have q239 : x9_1 < (l0.length : Int) := of_decide_eq_true (by first | (with_reducible assumption) | assumption)
            obtain ⟨ad239, e239, hx239_0⟩ := Kd.at_int HR0.out x9_1 p239 q239
            cases e239
            replace p239 := eq_true p239
            replace q239 := eq_true q239
            have p240 : 0 ≤ ((ji9) : Int) := of_decide_eq_true (by first | (with_reducible assumption) | assumption)
            have q240 : (ji9) < (l0.length : Int) := of_decide_eq_true (by first | (with_reducible assumption) | assumption)
            obtain ⟨ad240, e240, hx240_0⟩ := Kd.at_int HR0.out (ji9) p240 q240
            obtain rfl : ad239 = ad240 := (by injection e240)
            replace p240 := eq_true p240
            replace q240 := eq_true q240
            go_wp2
            go_ret
            exact ⟨by first | rfl | (simp; done) | (simp only [← hji9] <;> (first | rfl | simp)) | (simp [*]; done), by repeat (first | exact Drawn0.refl _ | apply Drawn0.step)⟩
           ·rw [if_neg c12] at H
            have c12b0 : decide ((rd l0 x9_1) ≤ (rd l0 (ji9))) = false := decide_eq_false c12
            clear c12
            have H' := Aside0.mk H
            clear H
            have p239 : 0 ≤ (x9_1 : Int) := of_decide_eq_true (by first | (with_reducible assumption) | assumption)
            have q239 : x9_1 < (l0.length : Int) := of_decide_eq_true (by first | (with_reducible assumption) | assumption)
            obtain ⟨ad239, e239, hx239_0⟩ := Kd.at_int HR0.out x9_1 p239 q239
            cases e239
            replace p239 := eq_true p239
            replace q239 := eq_true q239
            have p240 : 0 ≤ ((ji9) : Int) := of_decide_eq_true (by first | (with_reducible assumption) | assumption)
            have q240 : (ji9) < (l0.length : Int) := of_decide_eq_true (by first | (with_reducible assumption) | assumption)
            obtain ⟨ad240, e240, hx240_0⟩ := Kd.at_int HR0.out (ji9) p240 q240
            obtain rfl : ad239 = ad240 := (by injection e240)
            replace p240 := eq_true p240
            replace q240 := eq_true q240
            go_wp2
            go_roundg k1
            case measure => have := HK1.out; omega
            case rel => exact ⟨(wrap64 (x9_1 + 1)), (by first | rfl | (simp; done) | (simp [*]; done)), H', ⟨by have := HK1.out; omega⟩, by repeat (first | exact Drawn0.refl _ | apply Drawn0.step)⟩
          ·rw [if_neg c11] at H
           exact absurd H (by simp)
         ·rw [if_neg c10] at H
          exact absurd H (by simp)
        ·rw [if_neg c8] at H
         have c8b0 : decide (0 < x9_1) = false := decide_eq_false c8
         clear c8
         have H' := Aside0.mk H
         clear H
         have p239 : 0 ≤ (x9_1 : Int) := of_decide_eq_true (by first | (with_reducible assumption) | assumption)
         have q239 : x9_1 < (l0.length : Int) := of_decide_eq_true (by first | (with_reducible assumption) | assumption)
         obtain ⟨ad239, e239, hx239_0⟩ := Kd.at_int HR0.out x9_1 p239 q239
         cases e239
         replace p239 := eq_true p239
         replace q239 := eq_true q239
         go_wp2
         go_roundg k1
         case measure => have := HK1.out; omega
         case rel => exact ⟨(wrap64 (x9_1 + 1)), (by first | rfl | (simp; done) | (simp [*]; done)), H', ⟨by have := HK1.out; omega⟩, by repeat (first | exact Drawn0.refl _ | apply Drawn0.step)⟩
     ·rw [if_neg c5] at H
      exact absurd H (by simp)
    ·rw [if_neg c4] at H
     exact absurd H (by simp)
   ·rw [if_neg c3] at H
    have c3b0 : decide (x9_1 < (l0.length : Int)) = false := decide_eq_false c3
    clear c3
    obtain rfl := Option.some.inj H
    go_wp2
    go_ret
    exact ⟨by first | rfl | (simp; done) | (simp [*]; done), by repeat (first | exact Drawn0.refl _ | apply Drawn0.step)⟩

end Go.Proofs.Ytkdoilmfchlpdaa.A
end
