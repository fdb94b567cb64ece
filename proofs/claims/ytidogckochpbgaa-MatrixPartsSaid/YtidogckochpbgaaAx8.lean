import Derived.Test.YtidogckochpbgaaAx0
import Derived.Test.YtidogckochpbgaaAx1
import Derived.Test.YtidogckochpbgaaAx2
-- Printed for this claim by mp.py, a program of its prover, through the kit's print. Lean checks it.
namespace Go.Proofs.Ytidogckochpbgaa.A
open Go.RowKit Go.Proofs.YtidogckochpbgaaW.PrintWords Go.Proofs.YtidogckochpbgaaW.PrintLast Go.Proofs.YtidogckochpbgaaW.PrintMore
attribute [local go_sem] max2_int min2_int max_two min_two max_three min_three max_four min_four   -- for this text's walks alone
set_option linter.unusedVariables false
set_option linter.unusedSimpArgs false

/-! ### matrix_Mul: function 22 -/
mutual
def matrix_Mul.j0 : Nat → List (List Int) → List (List Int) → Bool → Option ((List (List Int)) × Int)
 | 0, _, _, _ => none
 | k + 1, x0, x1, x21 => if x21 = true then (some (([] : List (List Int)), 100)) else (if 0 < (x0.length : Int) then (if ((rd_L1 x0 0).length : Int) = (x1.length : Int) then ((gf8_New.f).bind fun _ => (if 0 < (x1.length : Int) then ((matrix_blank.f k (x0.length : Int) ((rd_L1 x1 0).length : Int)).bind fun t168 => (matrix_Mul.l0 k x1 t168 x0 (x0.length : Int) 0)) else (none))) else (some (([] : List (List Int)), 101))) else (none))
def matrix_Mul.l0 : Nat → List (List Int) → List (List Int) → List (List Int) → Int → Int → Option ((List (List Int)) × Int)
 | 0, _, _, _, _, _ => none
 | k + 1, x1, x7, x37, x38, x39 => if x39 < x38 then (if 0 ≤ x39 then (if x39 < (x37.length : Int) then (matrix_Mul.l1 k x1 x7 x39 x37 x38 x39 (rd_L1 x37 x39) ((rd_L1 x37 x39).length : Int) 0) else (none)) else (none)) else (some (x7, 0))
def matrix_Mul.l1 : Nat → List (List Int) → List (List Int) → Int → List (List Int) → Int → Int → List Int → Int → Int → Option ((List (List Int)) × Int)
 | 0, _, _, _, _, _, _, _, _, _ => none
 | k + 1, x1, x7, x8, x37, x38, x39, x44, x45, x46 => if x46 < x45 then (if 0 ≤ x46 then (if x46 < (x44.length : Int) then (if (rd x44 x46) = 0 then (matrix_Mul.l1 k x1 x7 x8 x37 x38 x39 x44 x45 (wrap64 (x46 + 1))) else (if x46 < (x1.length : Int) then (matrix_Mul.l2 k x1 x7 x8 (rd x44 x46) x37 x38 x39 x44 x45 x46 (rd_L1 x1 x46) ((rd_L1 x1 x46).length : Int) 0) else (none))) else (none)) else (none)) else (matrix_Mul.l0 k x1 x7 x37 x38 (wrap64 (x39 + 1)))
def matrix_Mul.l2 : Nat → List (List Int) → List (List Int) → Int → Int → List (List Int) → Int → Int → List Int → Int → Int → List Int → Int → Int → Option ((List (List Int)) × Int)
 | 0, _, _, _, _, _, _, _, _, _, _, _, _, _ => none
 | k + 1, x1, x7, x8, x11, x37, x38, x39, x44, x45, x46, x56, x57, x58 => if x58 < x57 then (if 0 ≤ x58 then (if x58 < (x56.length : Int) then (if 0 ≤ x8 then (if x8 < (x7.length : Int) then (if x58 < ((rd_L1 x7 x8).length : Int) then ((gf8_Tables_Mul.f x11 (rd x56 x58)).bind fun t177 => (matrix_Mul.l2 k x1 (x7.set (x8 : Int).toNat ((rd_L1 x7 x8).set (x58 : Int).toNat (Go.bits .xor .u8 (rd (rd_L1 x7 x8) x58) t177))) x8 x11 x37 x38 x39 x44 x45 x46 x56 x57 (wrap64 (x58 + 1)))) else (none)) else (none)) else (none)) else (none)) else (none)) else (matrix_Mul.l1 k x1 x7 x8 x37 x38 x39 x44 x45 (wrap64 (x46 + 1)))
end
def matrix_Mul.f (k : Nat) (l0 : List (List Int)) (l1 : List (List Int)) : Option ((List (List Int)) × Int) := (matrix_Check.f k l0).bind fun t163 => (if t163 = 0 then ((matrix_Check.f k l1).bind fun t164 => (matrix_Mul.j0 k l0 l1 (t164 != 0))) else (matrix_Mul.j0 k l0 l1 true))
theorem matrix_Mul.mono_l : ∀ k, (∀ y0 y1 y2, LeO (matrix_Mul.j0 k y0 y1 y2) (matrix_Mul.j0 (k + 1) y0 y1 y2)) ∧ (∀ y0 y1 y2 y3 y4, LeO (matrix_Mul.l0 k y0 y1 y2 y3 y4) (matrix_Mul.l0 (k + 1) y0 y1 y2 y3 y4)) ∧ (∀ y0 y1 y2 y3 y4 y5 y6 y7 y8, LeO (matrix_Mul.l1 k y0 y1 y2 y3 y4 y5 y6 y7 y8) (matrix_Mul.l1 (k + 1) y0 y1 y2 y3 y4 y5 y6 y7 y8)) ∧ (∀ y0 y1 y2 y3 y4 y5 y6 y7 y8 y9 y10 y11 y12, LeO (matrix_Mul.l2 k y0 y1 y2 y3 y4 y5 y6 y7 y8 y9 y10 y11 y12) (matrix_Mul.l2 (k + 1) y0 y1 y2 y3 y4 y5 y6 y7 y8 y9 y10 y11 y12))
 | 0 => ⟨fun _ _ _ r h => by simp [matrix_Mul.j0] at h, fun _ _ _ _ _ r h => by simp [matrix_Mul.l0] at h, fun _ _ _ _ _ _ _ _ _ r h => by simp [matrix_Mul.l1] at h, fun _ _ _ _ _ _ _ _ _ _ _ _ _ r h => by simp [matrix_Mul.l2] at h⟩
 | k + 1 => by
  obtain ⟨ih0, ih1, ih2, ih3⟩ := matrix_Mul.mono_l k
  refine ⟨?_, ?_, ?_, ?_⟩
  ·intro y0 y1 y2
   unfold matrix_Mul.j0
   repeat' first
   | (with_reducible exact ih0 _ _ _)
   | (with_reducible exact ih1 _ _ _ _ _)
   | (with_reducible exact ih2 _ _ _ _ _ _ _ _ _)
   | (with_reducible exact ih3 _ _ _ _ _ _ _ _ _ _ _ _ _)
   | (with_reducible exact matrix_Check.mono _ _)
   | (with_reducible exact matrix_blank.mono _ _ _)
   | (with_reducible exact LeO.refl _)
   | (with_reducible exact LeO.none _)
   | (with_reducible refine LeO.ite ?_ ?_)
   | (with_reducible refine LeO.bind ?_ (fun _ => ?_))
   | exact ih0 _ _ _
   | exact ih1 _ _ _ _ _
   | exact ih2 _ _ _ _ _ _ _ _ _
   | exact ih3 _ _ _ _ _ _ _ _ _ _ _ _ _
   | exact matrix_Check.mono _ _
   | exact matrix_blank.mono _ _ _
   | exact LeO.none _
   | refine LeO.ite ?_ ?_
   | refine LeO.bind ?_ (fun _ => ?_)
  ·intro y0 y1 y2 y3 y4
   unfold matrix_Mul.l0
   repeat' first
   | (with_reducible exact ih0 _ _ _)
   | (with_reducible exact ih1 _ _ _ _ _)
   | (with_reducible exact ih2 _ _ _ _ _ _ _ _ _)
   | (with_reducible exact ih3 _ _ _ _ _ _ _ _ _ _ _ _ _)
   | (with_reducible exact matrix_Check.mono _ _)
   | (with_reducible exact matrix_blank.mono _ _ _)
   | (with_reducible exact LeO.refl _)
   | (with_reducible exact LeO.none _)
   | (with_reducible refine LeO.ite ?_ ?_)
   | (with_reducible refine LeO.bind ?_ (fun _ => ?_))
   | exact ih0 _ _ _
   | exact ih1 _ _ _ _ _
   | exact ih2 _ _ _ _ _ _ _ _ _
   | exact ih3 _ _ _ _ _ _ _ _ _ _ _ _ _
   | exact matrix_Check.mono _ _
   | exact matrix_blank.mono _ _ _
   | exact LeO.none _
   | refine LeO.ite ?_ ?_
   | refine LeO.bind ?_ (fun _ => ?_)
  ·intro y0 y1 y2 y3 y4 y5 y6 y7 y8
   unfold matrix_Mul.l1
   repeat' first
   | (with_reducible exact ih0 _ _ _)
   | (with_reducible exact ih1 _ _ _ _ _)
   | (with_reducible exact ih2 _ _ _ _ _ _ _ _ _)
   | (with_reducible exact ih3 _ _ _ _ _ _ _ _ _ _ _ _ _)
   | (with_reducible exact matrix_Check.mono _ _)
   | (with_reducible exact matrix_blank.mono _ _ _)
   | (with_reducible exact LeO.refl _)
   | (with_reducible exact LeO.none _)
   | (with_reducible refine LeO.ite ?_ ?_)
   | (with_reducible refine LeO.bind ?_ (fun _ => ?_))
   | exact ih0 _ _ _
   | exact ih1 _ _ _ _ _
   | exact ih2 _ _ _ _ _ _ _ _ _
   | exact ih3 _ _ _ _ _ _ _ _ _ _ _ _ _
   | exact matrix_Check.mono _ _
   | exact matrix_blank.mono _ _ _
   | exact LeO.none _
   | refine LeO.ite ?_ ?_
   | refine LeO.bind ?_ (fun _ => ?_)
  ·intro y0 y1 y2 y3 y4 y5 y6 y7 y8 y9 y10 y11 y12
   unfold matrix_Mul.l2
   repeat' first
   | (with_reducible exact ih0 _ _ _)
   | (with_reducible exact ih1 _ _ _ _ _)
   | (with_reducible exact ih2 _ _ _ _ _ _ _ _ _)
   | (with_reducible exact ih3 _ _ _ _ _ _ _ _ _ _ _ _ _)
   | (with_reducible exact matrix_Check.mono _ _)
   | (with_reducible exact matrix_blank.mono _ _ _)
   | (with_reducible exact LeO.refl _)
   | (with_reducible exact LeO.none _)
   | (with_reducible refine LeO.ite ?_ ?_)
   | (with_reducible refine LeO.bind ?_ (fun _ => ?_))
   | exact ih0 _ _ _
   | exact ih1 _ _ _ _ _
   | exact ih2 _ _ _ _ _ _ _ _ _
   | exact ih3 _ _ _ _ _ _ _ _ _ _ _ _ _
   | exact matrix_Check.mono _ _
   | exact matrix_blank.mono _ _ _
   | exact LeO.none _
   | refine LeO.ite ?_ ?_
   | refine LeO.bind ?_ (fun _ => ?_)
theorem matrix_Mul.mono : ∀ a0 a1 k, LeO (matrix_Mul.f k a0 a1) (matrix_Mul.f (k + 1) a0 a1) := by
 intro a0 a1 k
 obtain ⟨ih0, ih1, ih2, ih3⟩ := matrix_Mul.mono_l k
 unfold matrix_Mul.f
 repeat' first
   | (with_reducible exact ih0 _ _ _)
   | (with_reducible exact ih1 _ _ _ _ _)
   | (with_reducible exact ih2 _ _ _ _ _ _ _ _ _)
   | (with_reducible exact ih3 _ _ _ _ _ _ _ _ _ _ _ _ _)
   | (with_reducible exact matrix_Check.mono _ _)
   | (with_reducible exact matrix_blank.mono _ _ _)
   | (with_reducible exact LeO.refl _)
   | (with_reducible exact LeO.none _)
   | (with_reducible refine LeO.ite ?_ ?_)
   | (with_reducible refine LeO.bind ?_ (fun _ => ?_))
   | exact ih0 _ _ _
   | exact ih1 _ _ _ _ _
   | exact ih2 _ _ _ _ _ _ _ _ _
   | exact ih3 _ _ _ _ _ _ _ _ _ _ _ _ _
   | exact matrix_Check.mono _ _
   | exact matrix_blank.mono _ _ _
   | exact LeO.none _
   | refine LeO.ite ?_ ?_
   | refine LeO.bind ?_ (fun _ => ?_)
def matrix_Mul.T17 : Bool × List (List Nat × List Nat) := (true, [([], []), ([], []), ([0, 1], [0, 1]), ([2], [2]), ([], []), ([3, 4], [3, 4]), ([5], [5]), ([], []), ([], []), ([], []), ([7, 8, 9], [7, 8, 9]), ([6, 10], [6, 10]), ([3, 4, 0, 1, 2, 3, 4, 5, 6, 7, 8, 9, 10, 11], [3, 4]), ([12, 11, 10, 0, 1, 2, 3, 4, 5, 6, 7, 8, 9, 10, 11], [11, 12])])
def matrix_Mul.B17 : List Nat := [0, 0, 3, 7, 0, 31, 63, 0, 0, 0, 896, 2047, 4095, 8191]
theorem matrix_Mul.tab17 : rtab .any (opsOf Try.f22 17) = matrix_Mul.T17 := by kernel_rfl
theorem matrix_Mul.bits17 : waitsOk matrix_Mul.T17.2 matrix_Mul.B17 = true := by kernel_rfl
set_option maxHeartbeats 8000000 in
set_option maxRecDepth 100000 in
theorem matrix_Mul.calls (k : Nat) (A0 : Option Addr) (c0 : Nat) (l0 : List (List Int)) (A1 : Option Addr) (c1 : Nat) (l1 : List (List Int)) (r1 : List (List Int)) (r2 : Int) (w : World) (hr0 : Kd.C (Kd.slice 5 (Kd.int .u8)) w A0 l0.length l0) (hc0 : l0.length ≤ c0) (hr1 : Kd.C (Kd.slice 5 (Kd.int .u8)) w A1 l1.length l1) (hc1 : l1.length ≤ c1) (h : matrix_Mul.f k l0 l1 = some (r1, r2)) :
  Calls Try.prog 22 #[.slice A0 l0.length c0, .slice A1 l1.length c1] w fun e w' => ∃ v0_ : Value, e = .returned (.tuple #[v0_, .int .i64 r2]) ∧ Kd.S (Kd.slice 5 (Kd.int .u8)) 31 w' w.heap.size (fun _ => True) v0_ r1 ∧ Below w.heap.size w w' := by
 have HR0 := Aside0.mk hr0
 have HC0 := Aside0.mk hc0
 clear hr0 hc0
 have HR1 := Aside0.mk hr1
 have HC1 := Aside0.mk hc1
 clear hr1 hc1
 have HB := Aside0.mk (Below.refl w.heap.size w)
 have H : ((matrix_Check.f k l0).bind fun t163 => (if t163 = 0 then ((matrix_Check.f k l1).bind fun t164 => (matrix_Mul.j0 k l0 l1 (t164 != 0))) else (matrix_Mul.j0 k l0 l1 true))) = some (r1, r2) := h
 clear h
 have HC3 := Aside0.mk H
 clear H
 go_enter Try.func22, Try.ntmps22
 go_upto_region 1 with (fail)
 go_cut [21] (fun v21 wc => ∃ (kq : Nat) (x21_2 : Bool), v21 = .bool x21_2 ∧ Aside0 (matrix_Mul.j0 kq l0 l1 x21_2 = some (r1, r2)) ∧ Aside0 (kq ≤ k) ∧ Aside0 (Below w.heap.size w wc))
 case first =>
  have H := HC3.out
  clear HC3
  replace H := Option.bind_eq_some_iff.mp H
  obtain ⟨t163, A40, H⟩ := H
  replace H : (if t163 = 0 then ((matrix_Check.f k l1).bind fun t164 => (matrix_Mul.j0 k l0 l1 (t164 != 0))) else (matrix_Mul.j0 k l0 l1 true)) = some (r1, r2) := H
  have A4 := Aside0.mk A40
  clear A40
  by_cases c5 : t163 = 0
  ·rw [if_pos c5] at H
   have c5b0 : (t163 == 0) = true := beq_iff_eq.mpr c5
   have c5b1 : (t163 != 0) = false := bne_eq_false_iff_eq.mpr c5
   clear c5
   (first | rw [c5b0] | (simp only [i64_w, i32_w]; rw [c5b0]) | skip)
   replace H := Option.bind_eq_some_iff.mp H
   obtain ⟨t164, A60, H⟩ := H
   replace H : (matrix_Mul.j0 k l0 l1 (t164 != 0)) = some (r1, r2) := H
   have A6 := Aside0.mk A60
   clear A60
   have H' := Aside0.mk H
   clear H
   go_wp2_with (first | ((with_reducible refine gate_callee (f := 14) rfl ?_); refine goesL_ (some 15) rfl rfl Try.func14 (by kernel_rfl) rfl #[.slice A0 l0.length c0] rfl (by (try simp only [List.map_toArray, List.map_cons, List.map_nil]); first | done | rfl | (simp only [tb_wrap8]; done) | (simp only [tb_wrap8]; rfl) | (simp only [List.length_drop, List.length_take]; rfl)) ?_; (with_reducible refine (matrix_Check.calls k _ _ l0 t163 _ ?side1 ?side2 A4.out).mono ?_); (case side1 => repeat (first | exact (Kd.C_below HR0.out HB.out) | (with_reducible refine Kd.C_alloc ?_ _) | (with_reducible refine Kd.C_drewN ?_ _) | (with_reducible refine Kd.C_drew ?_))); (case side2 => exact HC0.out); rintro e w' ⟨rfl, ⟨nd, rfl⟩⟩; refine ⟨_, rfl, ?_⟩) | (go_at_call 14; (with_reducible refine (matrix_Check.calls k _ _ l1 t164 _ ?side1 ?side2 A6.out).mono ?_); (case side1 => repeat (first | exact (Kd.C_below HR1.out (by repeat (first | (with_reducible first | exact HB.out | apply below_alloc | apply pw_below_drewN | apply below_drew1) | exact HB.out))) | (with_reducible refine Kd.C_alloc ?_ _) | (with_reducible refine Kd.C_drewN ?_ _) | (with_reducible refine Kd.C_drew ?_))); (case side2 => exact HC1.out); rintro e w' ⟨rfl, ⟨nd, rfl⟩⟩))
   go_meet
   case rel => exact ⟨_, ((t164 != 0)), (by first | rfl | (simp; done) | (simp [*]; done)), H', ⟨by first | omega | exact Nat.le_refl _⟩, ⟨by repeat (first | (with_reducible first | exact HB.out | apply below_alloc | apply pw_below_drewN | apply below_drew1) | exact HB.out)⟩⟩
  ·rw [if_neg c5] at H
   have c5b0 : (t163 == 0) = false := beq_eq_false_iff_ne.mpr c5
   have c5b1 : (t163 != 0) = true := bne_iff_ne.mpr c5
   (first | rw [c5b0] | (simp only [i64_w, i32_w]; rw [c5b0]) | skip)
   have H' := Aside0.mk H
   clear H
   go_wp2_with (first | ((with_reducible refine gate_callee (f := 14) rfl ?_); refine goesL_ (some 15) rfl rfl Try.func14 (by kernel_rfl) rfl #[.slice A0 l0.length c0] rfl (by (try simp only [List.map_toArray, List.map_cons, List.map_nil]); first | done | rfl | (simp only [tb_wrap8]; done) | (simp only [tb_wrap8]; rfl) | (simp only [List.length_drop, List.length_take]; rfl)) ?_; (with_reducible refine (matrix_Check.calls k _ _ l0 t163 _ ?side1 ?side2 A4.out).mono ?_); (case side1 => repeat (first | exact (Kd.C_below HR0.out HB.out) | (with_reducible refine Kd.C_alloc ?_ _) | (with_reducible refine Kd.C_drewN ?_ _) | (with_reducible refine Kd.C_drew ?_))); (case side2 => exact HC0.out); rintro e w' ⟨rfl, ⟨nd, rfl⟩⟩; refine ⟨_, rfl, ?_⟩))
   go_meet
   case rel => exact ⟨_, (true), (by first | rfl | (simp; done) | (simp [*]; done)), H', ⟨by first | omega | exact Nat.le_refl _⟩, ⟨by repeat (first | (with_reducible first | exact HB.out | apply below_alloc | apply pw_below_drewN | apply below_drew1) | exact HB.out)⟩⟩
 case rest =>
  clear HC3
  try clear c1
  try clear c2
  try clear p2
  try clear c5
  try clear c5b0
  try clear c5b1
  obtain ⟨kq, x21_2, rfl, HA, HJ2, HB⟩ := hcut
  cases kq with
  | zero => exact absurd HA.out (by simp [matrix_Mul.j0])
  | succ kj2 =>
   have H := HA.out
   clear HA
   simp only [matrix_Mul.j0] at H
   by_cases c7 : x21_2 = true
   ·subst c7
    have H1 : (some (([] : List (List Int)), 100)) = some (r1, r2) := by rw [if_pos rfl] at H; exact H
    clear H
    have H := H1
    clear H1
    simp only [Option.some.injEq, Prod.mk.injEq] at H
    obtain ⟨rfl, rfl⟩ := H
    go_wp2
    go_ret2
    exact ⟨_, by first | rfl | (simp [errW_none, errW_some] <;> rfl) | (simp [*, errW_none, errW_some] <;> rfl), by first | exact Kd.S_nil _ _ _ _ _ | exact Kd.N_nil _ _ _ _ _ | exact Kd.V_nil _ _ _ _ _ | exact Kd.Q_nil _ _ _ _ _ | exact Kd.R_nil _ _ _ _ _, by repeat (first | (with_reducible first | exact HB.out | apply below_alloc | apply pw_below_drewN | apply below_drew1) | exact HB.out)⟩
   ·replace c7 := Bool.eq_false_iff.mpr c7
    subst c7
    have H1 : (if 0 < (l0.length : Int) then (if ((rd_L1 l0 0).length : Int) = (l1.length : Int) then ((gf8_New.f).bind fun _ => (if 0 < (l1.length : Int) then ((matrix_blank.f kj2 (l0.length : Int) ((rd_L1 l1 0).length : Int)).bind fun t168 => (matrix_Mul.l0 kj2 l1 t168 l0 (l0.length : Int) 0)) else (none))) else (some (([] : List (List Int)), 101))) else (none)) = some (r1, r2) := by rw [if_neg (show ¬ (false = true) by decide)] at H; exact H
    clear H
    have H := H1
    clear H1
    by_cases c8 : 0 < (l0.length : Int)
    ·rw [if_pos c8] at H
     have c8b0 : decide (0 < (l0.length : Int)) = true := decide_eq_true c8
     have c8b1 : decide (0 < l0.length) = true := decide_eq_true (by omega)
     clear c8
     by_cases c9 : ((rd_L1 l0 0).length : Int) = (l1.length : Int)
     ·rw [if_pos c9] at H
      have c9b0 : (((rd_L1 l0 0).length : Int) == (l1.length : Int)) = true := beq_iff_eq.mpr c9
      have c9b1 : (((rd_L1 l0 0).length : Int) != (l1.length : Int)) = false := bne_eq_false_iff_eq.mpr c9
      have c9b2 : ((rd_L1 l0 0).length == l1.length) = true := by first | simpa using c9 | (simp at c9 ⊢; omega)
      clear c9
      replace H := Option.bind_eq_some_iff.mp H
      obtain ⟨_, A100, H⟩ := H
      replace H : (if 0 < (l1.length : Int) then ((matrix_blank.f kj2 (l0.length : Int) ((rd_L1 l1 0).length : Int)).bind fun t168 => (matrix_Mul.l0 kj2 l1 t168 l0 (l0.length : Int) 0)) else (none)) = some (r1, r2) := H
      have A10 := Aside0.mk A100
      clear A100
      by_cases c11 : 0 < (l1.length : Int)
      ·rw [if_pos c11] at H
       have c11b0 : decide (0 < (l1.length : Int)) = true := decide_eq_true c11
       have c11b1 : decide (0 < l1.length) = true := decide_eq_true (by omega)
       clear c11
       replace H := Option.bind_eq_some_iff.mp H
       obtain ⟨t168, A120, H⟩ := H
       replace H : (matrix_Mul.l0 kj2 l1 t168 l0 (l0.length : Int) 0) = some (r1, r2) := H
       have A12 := Aside0.mk A120
       clear A120
       have H' := Aside0.mk H
       clear H
       have p165 : 0 ≤ (0 : Int) := (by omega)
       have q165 : 0 < (l0.length : Int) := of_decide_eq_true (by first | (with_reducible assumption) | assumption)
       obtain ⟨ad165, A165_0, c165_0, e165, hx165_0, hl165_0, hi165_0⟩ := at_L1 HR0.out 0 p165 q165
       cases e165
       have qi165 : (0 < l0.length) = True := eq_true (by omega)
       (try rw [show ((0 : Int)).toNat = 0 from rfl] at hx165_0)
       (try rw [Addr.add_zero'] at hx165_0)
       replace hx165_0 := (HB.out.cell (World.block_lt_of_cell? w _ hx165_0)).trans hx165_0
       have HR165_0 := Aside0.mk hi165_0
       have HC165_0 := Aside0.mk hl165_0
       clear hi165_0 hl165_0
       replace p165 := eq_true p165
       replace q165 := eq_true q165
       go_wp2_with (first | ((with_reducible refine gate_callee (f := 44) rfl ?_); refine goesL_ (some 29) rfl rfl Try.func44 (by kernel_rfl) rfl #[] rfl (by (try simp only [List.map_toArray, List.map_cons, List.map_nil]); first | done | rfl | (simp only [tb_wrap8]; done) | (simp only [tb_wrap8]; rfl) | (simp only [List.length_drop, List.length_take]; rfl)) ?_; (with_reducible refine (gf8_New.calls   w _ ?side1 A10.out).mono ?_); (case side1 => repeat (first | (with_reducible first | exact HB.out | apply below_alloc | apply pw_below_drewN | apply below_drew1) | exact HB.out)); rintro e w13 ⟨g166, rfl, hi, hb, hb2⟩; refine ⟨_, rfl, ?_⟩; have n0_ := Aside0.mk (hb); have n1_ := Aside0.mk (hi); clear HB; have HB := n0_; have HI166 := n1_; clear n0_ n1_; (try clear hb); (try clear hb2); (try clear hk); (try clear hi); have p167 : 0 ≤ (0 : Int) := (by omega); have q167 : 0 < (l1.length : Int) := of_decide_eq_true (by first | (with_reducible assumption) | assumption); obtain ⟨ad167, A167_0, c167_0, e167, hx167_0, hl167_0, hi167_0⟩ := at_L1 HR1.out 0 p167 q167; cases e167; have qi167 : (0 < l1.length) = True := eq_true (by omega); (try rw [show ((0 : Int)).toNat = 0 from rfl] at hx167_0); (try rw [Addr.add_zero'] at hx167_0); replace hx167_0 := (HB.out.cell (World.block_lt_of_cell? w _ hx167_0)).trans hx167_0; have HR167_0 := Aside0.mk hi167_0; have HC167_0 := Aside0.mk hl167_0; clear hi167_0 hl167_0; replace p167 := eq_true p167; replace q167 := eq_true q167) | ((with_reducible refine gate_callee (f := 43) rfl ?_); refine goesL_ (some 36) rfl rfl Try.func43 (by kernel_rfl) rfl #[.int .i64 (l0.length : Int), .int .i64 ((rd_L1 l1 0).length : Int)] rfl (by (try simp only [List.map_toArray, List.map_cons, List.map_nil]); first | done | rfl | (simp only [tb_wrap8]; done) | (simp only [tb_wrap8]; rfl) | (simp only [List.length_drop, List.length_take]; rfl)) ?_; (with_reducible refine (matrix_blank.calls kj2 (l0.length : Int) ((rd_L1 l1 0).length : Int) t168 _ A12.out).mono ?_); rintro e w14 ⟨v169, rfl, ho0, hb⟩; refine ⟨_, rfl, ?_⟩; have n0_ := Aside0.mk (Kd.S_lower ho0 (below_size (by repeat (first | (with_reducible first | exact HB.out | apply below_alloc | apply pw_below_drewN | apply below_drew1 | refine below_set ?_ (IsS76.ge HI166.out)) | exact HB.out)))); have n1_ := Aside0.mk (IsS76.below (by repeat (first | (with_reducible first | exact HI166.out | apply IsS76.alloc | apply IsS76.drewN | apply IsS76.drew) | exact HI166.out)) hb); have n2_ := Aside0.mk (below_step (by repeat (first | (with_reducible first | exact HB.out | apply below_alloc | apply pw_below_drewN | apply below_drew1 | refine below_set ?_ (IsS76.ge HI166.out)) | exact HB.out)) hb); clear HI166; clear HB; have HO170 := n0_; have HI166 := n1_; have HB := n2_; clear n0_ n1_ n2_; (try clear hb); (try clear hb2); (try clear hk); (try clear hi); (try clear ho0)))
       go_loopg [39] kj2 (fun kq v39 w' => ∃ (x7_2 : List (List Int)) (x39_2 : Int), v39 = .int .i64 x39_2 ∧ Aside0 (matrix_Mul.l0 kq l1 x7_2 l0 (l0.length : Int) x39_2 = some (r1, r2)) ∧ Aside0 (kq ≤ kj2) ∧ Aside0 (Kd.S (Kd.slice 5 (Kd.int .u8)) 31 w' w.heap.size (fun _ => True) v169 x7_2) ∧ Aside0 (IsS76 w w' g166 ) ∧ Aside0 (Below w.heap.size w w'))
       case atStart => exact ⟨(t168), (0), (by first | rfl | (simp; done) | (simp [*]; done)), H', ⟨Nat.le_refl _⟩, ⟨by (with_reducible repeat (first | apply Kd.S_alloc | apply Kd.S_drewN | apply Kd.S_drew)); exact HO170.out⟩, ⟨by repeat (first | (with_reducible first | exact HI166.out | apply IsS76.alloc | apply IsS76.drewN | apply IsS76.drew) | exact HI166.out)⟩, ⟨by repeat (first | (with_reducible first | exact HB.out | apply below_alloc | apply pw_below_drewN | apply below_drew1 | refine below_set ?_ (IsS76.ge HI166.out)) | exact HB.out)⟩⟩
       case round =>
        clear H'
        try clear c1
        try clear p1
        try clear q1
        try clear hx1
        try clear qi1
        try clear c2
        try clear p2
        try clear c4
        try clear c5
        try clear c5b0
        try clear c5b1
        try clear c7
        try clear c8
        try clear c8b0
        try clear c8b1
        try clear p8
        try clear c9
        try clear c9b0
        try clear c9b1
        try clear c9b2
        try clear c11
        try clear c11b0
        try clear c11b1
        try clear c14
        try clear hx165_0
        try clear hx167_0
        try clear p165
        try clear p167
        try clear p2
        try clear q165
        try clear q167
        obtain ⟨x7_2, x39_2, rfl, HA, HK2, HO_7, HI166, HB⟩ := hrel
        cases gk with
        | zero => exact absurd HA.out (by simp [matrix_Mul.l0])
        | succ k2 =>
         have H := HA.out
         clear HA
         simp only [matrix_Mul.l0] at H
         by_cases c15 : x39_2 < (l0.length : Int)
         ·rw [if_pos c15] at H
          have c15b0 : decide (x39_2 < (l0.length : Int)) = true := decide_eq_true c15
          clear c15
          by_cases c16 : 0 ≤ x39_2
          ·rw [if_pos c16] at H
           have c16b0 : decide (0 ≤ x39_2) = true := decide_eq_true c16
           clear c16
           by_cases c17 : x39_2 < (l0.length : Int)
           ·rw [if_pos c17] at H
            have c17b0 : decide (x39_2 < (l0.length : Int)) = true := decide_eq_true c17
            clear c17
            have H' := Aside0.mk H
            clear H
            have p171 : 0 ≤ (x39_2 : Int) := of_decide_eq_true (by first | (with_reducible assumption) | assumption)
            have q171 : x39_2 < (l0.length : Int) := of_decide_eq_true (by first | (with_reducible assumption) | assumption)
            obtain ⟨ad171, A171_0, c171_0, e171, hx171_0, hl171_0, hi171_0⟩ := at_L1 HR0.out x39_2 p171 q171
            obtain rfl : ad165 = ad171 := (by injection e171)
            replace hx171_0 := (HB.out.cell (World.block_lt_of_cell? w _ hx171_0)).trans hx171_0
            have HR171_0 := Aside0.mk hi171_0
            have HC171_0 := Aside0.mk hl171_0
            clear hi171_0 hl171_0
            replace p171 := eq_true p171
            replace q171 := eq_true q171
            go_wp2
            go_loopg [46] k2 (fun kq v46 w' => ∃ (x7_3 : List (List Int)) (x46_3 : Int), v46 = .int .i64 x46_3 ∧ Aside0 (matrix_Mul.l1 kq l1 x7_3 x39_2 l0 (l0.length : Int) x39_2 (rd_L1 l0 x39_2) ((rd_L1 l0 x39_2).length : Int) x46_3 = some (r1, r2)) ∧ Aside0 (kq ≤ k2) ∧ Aside0 (Kd.S (Kd.slice 5 (Kd.int .u8)) 31 w' w.heap.size (fun _ => True) v169 x7_3) ∧ Aside0 (IsS76 w w' g166 ) ∧ Aside0 (Below w.heap.size w w'))
            case atStart => exact ⟨(x7_2), (0), (by first | rfl | (simp; done) | (simp [*]; done)), H', ⟨Nat.le_refl _⟩, ⟨by (with_reducible repeat (first | apply Kd.S_alloc | apply Kd.S_drewN | apply Kd.S_drew)); exact HO_7.out⟩, ⟨by repeat (first | (with_reducible first | exact HI166.out | apply IsS76.alloc | apply IsS76.drewN | apply IsS76.drew) | exact HI166.out)⟩, ⟨by repeat (first | (with_reducible first | exact HB.out | apply below_alloc | apply pw_below_drewN | apply below_drew1 | refine below_set ?_ (IsS76.ge HI166.out)) | exact HB.out)⟩⟩
            case round =>
             clear H'
             try clear c1
             try clear p1
             try clear q1
             try clear hx1
             try clear qi1
             try clear c2
             try clear p2
             try clear c4
             try clear c5
             try clear c5b0
             try clear c5b1
             try clear c7
             try clear c8
             try clear c8b0
             try clear c8b1
             try clear p8
             try clear c9
             try clear c9b0
             try clear c9b1
             try clear c9b2
             try clear c11
             try clear c11b0
             try clear c11b1
             try clear c14
             try clear c15
             try clear c15b0
             try clear c16
             try clear c16b0
             try clear p16
             try clear q16
             try clear hx16
             try clear qi16
             try clear c17
             try clear c17b0
             try clear p17
             try clear q17
             try clear hx17
             try clear hx165_0
             try clear hx167_0
             try clear hx171_0
             try clear p1
             try clear p165
             try clear p167
             try clear p171
             try clear p2
             try clear p8
             try clear q1
             try clear q165
             try clear q167
             try clear q171
             obtain ⟨x7_3, x46_3, rfl, HA, HK3, HO_7, HI166, HB⟩ := hrel
             cases gk with
             | zero => exact absurd HA.out (by simp [matrix_Mul.l1])
             | succ k3 =>
              have H := HA.out
              clear HA
              simp only [matrix_Mul.l1] at H
              by_cases c18 : x46_3 < ((rd_L1 l0 x39_2).length : Int)
              ·rw [if_pos c18] at H
               have c18b0 : decide (x46_3 < ((rd_L1 l0 x39_2).length : Int)) = true := decide_eq_true c18
               clear c18
               by_cases c19 : 0 ≤ x46_3
               ·rw [if_pos c19] at H
                have c19b0 : decide (0 ≤ x46_3) = true := decide_eq_true c19
                clear c19
                by_cases c20 : x46_3 < ((rd_L1 l0 x39_2).length : Int)
                ·rw [if_pos c20] at H
                 have c20b0 : decide (x46_3 < ((rd_L1 l0 x39_2).length : Int)) = true := decide_eq_true c20
                 clear c20
                 by_cases c21 : (rd (rd_L1 l0 x39_2) x46_3) = 0
                 ·rw [if_pos c21] at H
                  have c21b0 : ((rd (rd_L1 l0 x39_2) x46_3) == 0) = true := beq_iff_eq.mpr c21
                  have c21b1 : ((rd (rd_L1 l0 x39_2) x46_3) != 0) = false := bne_eq_false_iff_eq.mpr c21
                  clear c21
                  have H' := Aside0.mk H
                  clear H
                  have p172 : 0 ≤ (x46_3 : Int) := of_decide_eq_true (by first | (with_reducible assumption) | assumption)
                  have q172 : x46_3 < ((rd_L1 l0 x39_2).length : Int) := of_decide_eq_true (by first | (with_reducible assumption) | assumption)
                  obtain ⟨ad172, e172, hx172_0⟩ := Kd.at_int HR171_0.out x46_3 p172 q172
                  cases e172
                  replace hx172_0 := (HB.out.cell (World.block_lt_of_cell? w _ hx172_0)).trans hx172_0
                  replace p172 := eq_true p172
                  replace q172 := eq_true q172
                  go_wp2
                  go_roundg k3
                  case measure => have := HJ2.out; have := HK2.out; have := HK3.out; omega
                  case rel => exact ⟨(x7_3), (wrap64 (x46_3 + 1)), (by first | rfl | (simp; done) | (simp [*]; done)), H', ⟨by have := HJ2.out; have := HK2.out; have := HK3.out; omega⟩, ⟨by (with_reducible repeat (first | apply Kd.S_alloc | apply Kd.S_drewN | apply Kd.S_drew)); exact HO_7.out⟩, ⟨by repeat (first | (with_reducible first | exact HI166.out | apply IsS76.alloc | apply IsS76.drewN | apply IsS76.drew) | exact HI166.out)⟩, ⟨by repeat (first | (with_reducible first | exact HB.out | apply below_alloc | apply pw_below_drewN | apply below_drew1 | refine below_set ?_ (IsS76.ge HI166.out)) | exact HB.out)⟩⟩
                 ·rw [if_neg c21] at H
                  have c21b0 : ((rd (rd_L1 l0 x39_2) x46_3) == 0) = false := beq_eq_false_iff_ne.mpr c21
                  have c21b1 : ((rd (rd_L1 l0 x39_2) x46_3) != 0) = true := bne_iff_ne.mpr c21
                  by_cases c22 : x46_3 < (l1.length : Int)
                  ·rw [if_pos c22] at H
                   have c22b0 : decide (x46_3 < (l1.length : Int)) = true := decide_eq_true c22
                   clear c22
                   have H' := Aside0.mk H
                   clear H
                   have p172 : 0 ≤ (x46_3 : Int) := of_decide_eq_true (by first | (with_reducible assumption) | assumption)
                   have q172 : x46_3 < ((rd_L1 l0 x39_2).length : Int) := of_decide_eq_true (by first | (with_reducible assumption) | assumption)
                   obtain ⟨ad172, e172, hx172_0⟩ := Kd.at_int HR171_0.out x46_3 p172 q172
                   cases e172
                   replace hx172_0 := (HB.out.cell (World.block_lt_of_cell? w _ hx172_0)).trans hx172_0
                   replace p172 := eq_true p172
                   replace q172 := eq_true q172
                   have p173 : 0 ≤ (x46_3 : Int) := of_decide_eq_true (by first | (with_reducible assumption) | assumption)
                   have q173 : x46_3 < (l1.length : Int) := of_decide_eq_true (by first | (with_reducible assumption) | assumption)
                   obtain ⟨ad173, A173_0, c173_0, e173, hx173_0, hl173_0, hi173_0⟩ := at_L1 HR1.out x46_3 p173 q173
                   obtain rfl : ad167 = ad173 := (by injection e173)
                   replace hx173_0 := (HB.out.cell (World.block_lt_of_cell? w _ hx173_0)).trans hx173_0
                   have HR173_0 := Aside0.mk hi173_0
                   have HC173_0 := Aside0.mk hl173_0
                   clear hi173_0 hl173_0
                   replace p173 := eq_true p173
                   replace q173 := eq_true q173
                   go_wp2
                   go_loopg [58] k3 (fun kq v58 w' => ∃ (x7_4 : List (List Int)) (x58_4 : Int), v58 = .int .i64 x58_4 ∧ Aside0 (matrix_Mul.l2 kq l1 x7_4 x39_2 (rd (rd_L1 l0 x39_2) x46_3) l0 (l0.length : Int) x39_2 (rd_L1 l0 x39_2) ((rd_L1 l0 x39_2).length : Int) x46_3 (rd_L1 l1 x46_3) ((rd_L1 l1 x46_3).length : Int) x58_4 = some (r1, r2)) ∧ Aside0 (kq ≤ k3) ∧ Aside0 (Kd.S (Kd.slice 5 (Kd.int .u8)) 31 w' w.heap.size (fun _ => True) v169 x7_4) ∧ Aside0 (IsS76 w w' g166 ) ∧ Aside0 (Below w.heap.size w w'))
                   case atStart => exact ⟨(x7_3), (0), (by first | rfl | (simp; done) | (simp [*]; done)), H', ⟨Nat.le_refl _⟩, ⟨by (with_reducible repeat (first | apply Kd.S_alloc | apply Kd.S_drewN | apply Kd.S_drew)); exact HO_7.out⟩, ⟨by repeat (first | (with_reducible first | exact HI166.out | apply IsS76.alloc | apply IsS76.drewN | apply IsS76.drew) | exact HI166.out)⟩, ⟨by repeat (first | (with_reducible first | exact HB.out | apply below_alloc | apply pw_below_drewN | apply below_drew1 | refine below_set ?_ (IsS76.ge HI166.out)) | exact HB.out)⟩⟩
                   case round =>
                    clear H'
                    try clear c1
                    try clear p1
                    try clear q1
                    try clear hx1
                    try clear qi1
                    try clear c2
                    try clear p2
                    try clear c4
                    try clear c5
                    try clear c5b0
                    try clear c5b1
                    try clear p6
                    try clear c7
                    try clear c8
                    try clear c8b0
                    try clear c8b1
                    try clear p8
                    try clear c9
                    try clear c9b0
                    try clear c9b1
                    try clear c9b2
                    try clear c11
                    try clear c11b0
                    try clear c11b1
                    try clear c14
                    try clear c15
                    try clear c15b0
                    try clear c16
                    try clear c16b0
                    try clear p16
                    try clear q16
                    try clear hx16
                    try clear qi16
                    try clear c17
                    try clear c17b0
                    try clear p17
                    try clear q17
                    try clear hx17
                    try clear c18
                    try clear c18b0
                    try clear c19
                    try clear c19b0
                    try clear c20
                    try clear c20b0
                    try clear c21
                    try clear c21b0
                    try clear c21b1
                    try clear c22
                    try clear c22b0
                    try clear hx165_0
                    try clear hx167_0
                    try clear hx171_0
                    try clear hx172_0
                    try clear hx173_0
                    try clear p1
                    try clear p16
                    try clear p165
                    try clear p167
                    try clear p17
                    try clear p171
                    try clear p172
                    try clear p173
                    try clear p2
                    try clear p8
                    try clear q1
                    try clear q16
                    try clear q165
                    try clear q167
                    try clear q17
                    try clear q171
                    try clear q172
                    try clear q173
                    obtain ⟨x7_4, x58_4, rfl, HA, HK4, HO_7, HI166, HB⟩ := hrel
                    cases gk with
                    | zero => exact absurd HA.out (by simp [matrix_Mul.l2])
                    | succ k4 =>
                     have H := HA.out
                     clear HA
                     simp only [matrix_Mul.l2] at H
                     by_cases c23 : x58_4 < ((rd_L1 l1 x46_3).length : Int)
                     ·rw [if_pos c23] at H
                      have c23b0 : decide (x58_4 < ((rd_L1 l1 x46_3).length : Int)) = true := decide_eq_true c23
                      clear c23
                      by_cases c24 : 0 ≤ x58_4
                      ·rw [if_pos c24] at H
                       have c24b0 : decide (0 ≤ x58_4) = true := decide_eq_true c24
                       clear c24
                       by_cases c25 : x58_4 < ((rd_L1 l1 x46_3).length : Int)
                       ·rw [if_pos c25] at H
                        have c25b0 : decide (x58_4 < ((rd_L1 l1 x46_3).length : Int)) = true := decide_eq_true c25
                        clear c25
                        by_cases c26 : 0 ≤ x39_2
                        ·rw [if_pos c26] at H
                         have c26b0 : decide (0 ≤ x39_2) = true := decide_eq_true c26
                         clear c26
                         by_cases c27 : x39_2 < (x7_4.length : Int)
                         ·rw [if_pos c27] at H
                          have c27b0 : decide (x39_2 < (x7_4.length : Int)) = true := decide_eq_true c27
                          clear c27
                          by_cases c28 : x58_4 < ((rd_L1 x7_4 x39_2).length : Int)
                          ·rw [if_pos c28] at H
                           have c28b0 : decide (x58_4 < ((rd_L1 x7_4 x39_2).length : Int)) = true := decide_eq_true c28
                           clear c28
                           replace H := Option.bind_eq_some_iff.mp H
                           obtain ⟨t177, A290, H⟩ := H
                           replace H : (matrix_Mul.l2 k4 l1 (x7_4.set (x39_2 : Int).toNat ((rd_L1 x7_4 x39_2).set (x58_4 : Int).toNat (Go.bits .xor .u8 (rd (rd_L1 x7_4 x39_2) x58_4) t177))) x39_2 (rd (rd_L1 l0 x39_2) x46_3) l0 (l0.length : Int) x39_2 (rd_L1 l0 x39_2) ((rd_L1 l0 x39_2).length : Int) x46_3 (rd_L1 l1 x46_3) ((rd_L1 l1 x46_3).length : Int) (wrap64 (x58_4 + 1))) = some (r1, r2) := H
                           have A29 := Aside0.mk A290
                           clear A290
                           obtain ⟨y178, hy178⟩ : ∃ y_ : List Int, y_ = ((rd_L1 x7_4 x39_2).set (x58_4 : Int).toNat (Go.bits .xor .u8 (rd (rd_L1 x7_4 x39_2) x58_4) t177)) := ⟨_, rfl⟩
                           replace H : (matrix_Mul.l2 k4 l1 (x7_4.set (x39_2 : Int).toNat y178) x39_2 (rd (rd_L1 l0 x39_2) x46_3) l0 (l0.length : Int) x39_2 (rd_L1 l0 x39_2) ((rd_L1 l0 x39_2).length : Int) x46_3 (rd_L1 l1 x46_3) ((rd_L1 l1 x46_3).length : Int) (wrap64 (x58_4 + 1))) = some (r1, r2) := by first | (rw [hy178]; with_reducible exact H) | (have H2_ := (Option.bind_some _ _).symm.trans H; rw [hy178]; with_reducible exact H2_) | (have H2_ := (Option.bind_some _ _).symm.trans H; with_reducible exact H2_) | with_reducible exact H | (rw [hy178]; exact H) | exact H
                           have Ny178 := Aside0.mk hy178
                           clear hy178
                           obtain ⟨y180, hy180⟩ : ∃ y_ : List (List Int), y_ = (x7_4.set (x39_2 : Int).toNat y178) := ⟨_, rfl⟩
                           replace H : (matrix_Mul.l2 k4 l1 y180 x39_2 (rd (rd_L1 l0 x39_2) x46_3) l0 (l0.length : Int) x39_2 (rd_L1 l0 x39_2) ((rd_L1 l0 x39_2).length : Int) x46_3 (rd_L1 l1 x46_3) ((rd_L1 l1 x46_3).length : Int) (wrap64 (x58_4 + 1))) = some (r1, r2) := by first | (rw [hy180]; with_reducible exact H) | (have H2_ := (Option.bind_some _ _).symm.trans H; rw [hy180]; with_reducible exact H2_) | (have H2_ := (Option.bind_some _ _).symm.trans H; with_reducible exact H2_) | with_reducible exact H | (rw [hy180]; exact H) | exact H
                           have Ny180 := Aside0.mk hy180
                           clear hy180
                           have H' := Aside0.mk H
                           clear H
                           have p174 : 0 ≤ (x58_4 : Int) := of_decide_eq_true (by first | (with_reducible assumption) | assumption)
                           have q174 : x58_4 < ((rd_L1 l1 x46_3).length : Int) := of_decide_eq_true (by first | (with_reducible assumption) | assumption)
                           obtain ⟨ad174, e174, hx174_0⟩ := Kd.at_int HR173_0.out x58_4 p174 q174
                           cases e174
                           replace hx174_0 := (HB.out.cell (World.block_lt_of_cell? w _ hx174_0)).trans hx174_0
                           replace p174 := eq_true p174
                           replace q174 := eq_true q174
                           try go_wp2
                           have n0_ := Aside0.mk (Kd.S_drew HO_7.out)
                           have n1_ := Aside0.mk (IsS76.drew HI166.out)
                           have n2_ := Aside0.mk (below_drew1 HB.out)
                           clear HO_7
                           clear HI166
                           clear HB
                           have HO_7 := n0_
                           have HI166 := n1_
                           have HB := n2_
                           clear n0_ n1_ n2_
                           obtain ⟨Ao32, co32, eo32⟩ := Kd.S_slice HO_7.out
                           (first | subst eo32 | (injection eo32 with f1_ f2_ f3_; have f4_ := f1_.symm; have f5_ := f3_.symm; clear f1_ f2_ f3_; subst f4_; subst f5_))
                           have p175 : 0 ≤ (x39_2 : Int) := of_decide_eq_true (by first | (with_reducible assumption) | assumption)
                           have q175 : x39_2 < (x7_4.length : Int) := of_decide_eq_true (by first | (with_reducible assumption) | assumption)
                           obtain ⟨ad175, A175_0, c175_0, e175, hx175_0, hl175_0, hi175_0⟩ := at_L1 (Kd.S_reads' HO_7.out).2.2 x39_2 p175 q175
                           cases e175
                           obtain ⟨ce175, hce175, hMe175, hcc175⟩ := Kd.S_get HO_7.out [] x39_2 p175 (by first | exact q175 | exact of_decide_eq_true (by first | (with_reducible assumption) | assumption) | (have e_ := (Kd.S_reads' HO_7.out).1; omega))
                           obtain ⟨ve175_0, rfl, ge175_0⟩ := hMe175
                           have hv175_0 := hcc175 0 _ rfl
                           rw [Nat.add_zero, show ((Kd.slice 5 (Kd.int .u8))).sz = 1 from rfl, Nat.mul_one] at hv175_0
                           replace hv175_0 := Option.some.inj (hv175_0.symm.trans hx175_0)
                           rw [hv175_0] at ge175_0
                           have HL175_0 := Aside0.mk (show Kd.R (Kd.int .u8) 5 _ _ _ _ (rd_L1 x7_4 x39_2) from ge175_0)
                           clear hv175_0 ge175_0
                           have HX175_0 := Aside0.mk hx175_0
                           clear hcc175 hce175
                           have HR175_0 := Aside0.mk hi175_0
                           have HC175_0 := Aside0.mk hl175_0
                           clear hi175_0 hl175_0
                           replace p175 := eq_true p175
                           replace q175 := eq_true q175
                           have p176 : 0 ≤ (x58_4 : Int) := of_decide_eq_true (by first | (with_reducible assumption) | assumption)
                           have q176 : x58_4 < ((rd_L1 x7_4 x39_2).length : Int) := of_decide_eq_true (by first | (with_reducible assumption) | assumption)
                           obtain ⟨ad176, e176, hx176_0⟩ := Kd.at_int (by repeat (first | (with_reducible exact HR175_0.out) | (with_reducible refine Kd.C_alloc ?_ _) | (with_reducible refine Kd.C_drewN ?_ _) | (with_reducible refine Kd.C_drew ?_) | exact HR175_0.out)) x58_4 p176 q176
                           cases e176
                           replace p176 := eq_true p176
                           replace q176 := eq_true q176
                           refine start_ (n := 14) (S := fun w' => w'.cell? (ad175.add (x39_2).toNat) = some (.slice (some ad176) (rd_L1 x7_4 x39_2).length c175_0) ∧ w'.cell? (ad176.add (x58_4).toNat) = some (.int .u8 (rd (rd_L1 x7_4 x39_2) x58_4))) (ds := [13]) #[false, false, false, false, false, false, false, false, false, false, false, false, false, false] (by kernel_rfl) rfl rfl ⟨hx175_0, hx176_0⟩ (fun hHeld => ?_); refine with_tabW matrix_Mul.tab17 matrix_Mul.bits17 (fun HT_ HW_ => ?_)
                           generalize wr.drew = w31 at HO_7 HI166 HB HL175_0 HR175_0 HX175_0 hx175_0 hx176_0 hHeld ⊢
                           refine pure_ (i := 0) (N := some 63) (v := ?_) (a' := ?_) #[true, false, false, false, false, false, false, false, false, false, false, false, false, false] rfl rfl (any_of HT_.out (by kernel_rfl)) (fun _ _ _ h => h) (Or.inl ⟨by rfl, ?_⟩) ?_ ?_
                           rotate_left
                           ·intro w'
                            go_simp
                            with_reducible rfl
                           rotate_left
                           ·simp only [Act.put, List.setIfInBounds_toArray, List.set_cons_zero, List.set_cons_succ, i64_w, i32_w]
                            rfl
                           refine pure_ (i := 1) (N := some 64) (v := ?_) (a' := ?_) #[true, true, false, false, false, false, false, false, false, false, false, false, false, false] rfl rfl (any_of HT_.out (by kernel_rfl)) (fun _ _ _ h => h) (Or.inl ⟨by rfl, ?_⟩) ?_ ?_
                           rotate_left
                           ·intro w'
                            go_simp
                            with_reducible rfl
                           rotate_left
                           ·simp only [Act.put, List.setIfInBounds_toArray, List.set_cons_zero, List.set_cons_succ, i64_w, i32_w]
                            rfl
                           refine pure_ (i := 2) (N := some 65) (v := ?_) (a' := ?_) #[true, true, true, false, false, false, false, false, false, false, false, false, false, false] rfl rfl (any_of HT_.out (by kernel_rfl)) (fun _ _ _ h => h) (Or.inl ⟨by rfl, ?_⟩) ?_ ?_
                           rotate_left
                           ·intro w'
                            go_simp
                            with_reducible rfl
                           rotate_left
                           ·simp only [Act.put, List.setIfInBounds_toArray, List.set_cons_zero, List.set_cons_succ, i64_w, i32_w]
                            rfl
                           refine pure_ (i := 4) (N := some 67) (v := ?_) (a' := ?_) #[true, true, true, false, true, false, false, false, false, false, false, false, false, false] rfl rfl (any_of HT_.out (by kernel_rfl)) (fun _ _ _ h => h) (Or.inl ⟨by rfl, ?_⟩) ?_ ?_
                           rotate_left
                           ·intro w'
                            go_simp
                            with_reducible rfl
                           rotate_left
                           ·simp only [Act.put, List.setIfInBounds_toArray, List.set_cons_zero, List.set_cons_succ, i64_w, i32_w]
                            rfl
                           refine pure_ (i := 7) (N := some 70) (v := ?_) (a' := ?_) #[true, true, true, false, true, false, false, true, false, false, false, false, false, false] rfl rfl (any_of HT_.out (by kernel_rfl)) (fun _ _ _ h => h) (Or.inl ⟨by rfl, ?_⟩) ?_ ?_
                           rotate_left
                           ·intro w'
                            go_simp
                            with_reducible rfl
                           rotate_left
                           ·simp only [Act.put, List.setIfInBounds_toArray, List.set_cons_zero, List.set_cons_succ, i64_w, i32_w]
                            rfl
                           refine pure_ (i := 8) (N := some 71) (v := ?_) (a' := ?_) #[true, true, true, false, true, false, false, true, true, false, false, false, false, false] rfl rfl (any_of HT_.out (by kernel_rfl)) (fun _ _ _ h => h) (Or.inl ⟨by rfl, ?_⟩) ?_ ?_
                           rotate_left
                           ·intro w'
                            go_simp
                            with_reducible rfl
                           rotate_left
                           ·simp only [Act.put, List.setIfInBounds_toArray, List.set_cons_zero, List.set_cons_succ, i64_w, i32_w]
                            rfl
                           refine pure_ (i := 9) (N := some 72) (v := ?_) (a' := ?_) #[true, true, true, false, true, false, false, true, true, true, false, false, false, false] rfl rfl (any_of HT_.out (by kernel_rfl)) (fun _ _ _ h => h) (Or.inl ⟨by rfl, ?_⟩) ?_ ?_
                           rotate_left
                           ·intro w'
                            go_simp
                            with_reducible rfl
                           rotate_left
                           ·simp only [Act.put, List.setIfInBounds_toArray, List.set_cons_zero, List.set_cons_succ, i64_w, i32_w]
                            rfl
                           refine take_ (i := 3) (N := some 66) (v := ?_) (a' := ?_) #[true, true, true, true, true, false, false, true, true, true, false, false, false, false] rfl rfl (take_ofW HT_.out HW_.out (by kernel_rfl)) (fun _ _ _ h => h) (Or.inl ⟨by rfl, ?_⟩) hHeld ?_ ?_
                           rotate_left
                           ·rintro w' ⟨s0, s1⟩
                            go_simp
                            with_reducible rfl
                           rotate_left
                           ·simp only [Act.put, List.setIfInBounds_toArray, List.set_cons_zero, List.set_cons_succ, i64_w, i32_w]
                            rfl
                           refine pure_ (i := 5) (N := some 68) (v := ?_) (a' := ?_) #[true, true, true, true, true, true, false, true, true, true, false, false, false, false] rfl rfl (any_of HT_.out (by kernel_rfl)) (fun _ _ _ h => h) (Or.inl ⟨by rfl, ?_⟩) ?_ ?_
                           rotate_left
                           ·intro w'
                            go_simp
                            with_reducible rfl
                           rotate_left
                           ·simp only [Act.put, List.setIfInBounds_toArray, List.set_cons_zero, List.set_cons_succ, i64_w, i32_w]
                            rfl
                           refine take_ (i := 6) (N := some 69) (v := ?_) (a' := ?_) #[true, true, true, true, true, true, true, true, true, true, false, false, false, false] rfl rfl (take_ofW HT_.out HW_.out (by kernel_rfl)) (fun _ _ _ h => h) (Or.inl ⟨by rfl, ?_⟩) hHeld ?_ ?_
                           rotate_left
                           ·rintro w' ⟨s0, s1⟩
                            go_simp
                            with_reducible rfl
                           rotate_left
                           ·simp only [Act.put, List.setIfInBounds_toArray, List.set_cons_zero, List.set_cons_succ, i64_w, i32_w]
                            rfl
                           refine one_ (i := 10) (N := some 73) #[true, true, true, true, true, true, true, true, true, true, true, false, false, false] rfl rfl (one_of HT_.out (by kernel_rfl)) (by decide) (fun K hK => ?_)
                           refine goes_ Try.func48 (by kernel_rfl) rfl #[.pointer (some ⟨g166, 0, none⟩), .int .u8 (rd (rd_L1 l0 x39_2) x46_3), .int .u8 (rd (rd_L1 l1 x46_3) x58_4)] (by rfl) rfl rfl (by (try simp only [List.map_toArray, List.map_cons, List.map_nil]); first | done | rfl | (simp only [tb_wrap8]; done) | (simp only [tb_wrap8]; rfl) | (simp only [List.length_drop, List.length_take]; rfl)) ?_
                           with_reducible refine (gf8_Tables_Mul.calls g166 (rd (rd_L1 l0 x39_2) x46_3) (rd (rd_L1 l1 x46_3) x58_4) t177 _ ?side1 A29.out).mono ?_
                           (case side1 => repeat (first | (with_reducible first | exact HI166.out | apply IsS76.alloc | apply IsS76.drewN | apply IsS76.drew) | exact HI166.out))
                           rintro e w' ⟨rfl, ⟨nd, rfl⟩⟩
                           refine ⟨_, rfl, ?_⟩
                           have p30 : 0 ≤ (x58_4 : Int) := of_decide_eq_true (by first | (with_reducible assumption) | assumption)
                           have q30 : (x58_4 : Int) < (((rd_L1 x7_4 x39_2).length : Int) : Int) := of_decide_eq_true (by first | (with_reducible assumption) | assumption)
                           obtain ⟨go30, co30, eo30, gb30, gl30, cl30, HG30⟩ := Kd.R_form HL175_0.out (by omega)
                           (first | cases eo30 | (injection eo30 with ea_ en_ ec_; (first | subst ea_ | (injection ea_ with ea_; subst ea_)); subst ec_; clear en_))
                           have GB30 := Aside0.mk gb30
                           have GG30 := Aside0.mk HG30
                           clear gb30 gl30 HG30
                           (first | simp only [add_plain] at hx176_0 | skip)
                           obtain ⟨hx30_0, hf30_0⟩ := Kd.R_celln 0 HL175_0.out (x58_4 : Int) p30 q30
                           replace p30 := eq_true p30
                           replace q30 := eq_true q30
                           have hq33 : (x39_2 : Int) < (x7_4.length : Int) := (by have h_ : (x39_2 : Int) < ((x7_4.length : Int) : Int) := of_decide_eq_true (by first | (with_reducible assumption) | assumption); first | exact h_ | (have e_ := (Kd.S_reads' HO_7.out).1; omega) | simpa only [List.length_set, List.length_set] using h_)
                           obtain ⟨oki33, ce33, hcl33, hM33, hcc33, hok33, hbk33⟩ := Kd.S_borrow HO_7.out [] (x39_2 : Int) (of_decide_eq_true (by first | (with_reducible assumption) | assumption)) hq33
                           obtain ⟨ve33_0, rfl, ge33_0⟩ := hM33
                           have hv33 := hcc33 0 _ rfl
                           rw [Nat.add_zero, show ((Kd.slice 5 (Kd.int .u8))).sz = 1 from rfl, Nat.mul_one] at hv33
                           replace hv33 := Option.some.inj (hv33.symm.trans HX175_0.out)
                           subst hv33
                           clear hcc33 hcl33
                           replace ge33_0 := (show Kd.R (Kd.int .u8) 5 _ _ _ _ (rd_L1 x7_4 x39_2) from ge33_0)
                           have HP33 := Kd.R_putg ge33_0 (x58_4 : Int) (Go.bits .xor .u8 (rd (rd_L1 x7_4 x39_2) x58_4) t177)
                           have HN166_go30 := Aside0.mk (show g166 ≠ go30 from by have h_ := IsS76.own_ne HI166.out HL175_0.out (by decide); intro e_; exact h_ (by rw [e_]; rfl))
                           rw [← Ny178.out] at HP33
                           have HS33 := hbk33 HP33.2 (fun k_ e_ => by injection e_ with e_; subst e_; exact ge33_0.1 _ rfl) (x' := y178) (Kd.M_row HP33.1)
                           rw [← Ny180.out] at HS33
                           have HQ33 := Aside0.mk HS33
                           clear HP33 HS33 hbk33 hok33
                           refine hK.out _ _ ⟨hHeld.1, hHeld.2⟩ (fun hHeld => ?_)
                           clear hK K
                           refine norm_ (a' := ?_) ?_ ?_
                           rotate_left
                           ·show Act.put _ (some 73) _ = _
                            simp only [Act.put, List.setIfInBounds_toArray, List.set_cons_zero, List.set_cons_succ, i64_w, i32_w]
                            rfl
                           refine pure_ (i := 11) (N := some 74) (v := ?_) (a' := ?_) #[true, true, true, true, true, true, true, true, true, true, true, true, false, false] rfl rfl (any_of HT_.out (by kernel_rfl)) (fun _ _ _ h => h) (Or.inl ⟨by rfl, ?_⟩) ?_ ?_
                           rotate_left
                           ·intro w'
                            go_simp
                            with_reducible rfl
                           rotate_left
                           ·simp only [Act.put, List.setIfInBounds_toArray, List.set_cons_zero, List.set_cons_succ, i64_w, i32_w]
                            rfl
                           refine pure_ (i := 12) (N := some 75) (v := ?_) (a' := ?_) #[true, true, true, true, true, true, true, true, true, true, true, true, true, false] rfl rfl (any_of HT_.out (by kernel_rfl)) (fun _ _ _ h => h) (Or.inl ⟨by rfl, ?_⟩) ?_ ?_
                           rotate_left
                           ·intro w'
                            go_simp
                            with_reducible rfl
                           rotate_left
                           ·simp only [Act.put, List.setIfInBounds_toArray, List.set_cons_zero, List.set_cons_succ, i64_w, i32_w]
                            rfl
                           refine last_ (i := 13) (N := none) #[true, true, true, true, true, true, true, true, true, true, true, true, true, true] rfl rfl (one_of HT_.out (by kernel_rfl)) (by decide) (fun K hK => ?_)
                           refine skip_ (w1 := ?_) (by rfl) rfl ?_ ?_
                           rotate_left
                           ·go_simp
                            rfl
                           refine hK.out _ _ ?_
                           clear hK K
                           refine done_ (done_of HT_.out (by kernel_rfl)) ?_
                           try go_wp2
                           go_roundg k4
                           case measure => have := HJ2.out; have := HK2.out; have := HK3.out; have := HK4.out; omega
                           case rel => exact ⟨(y180), (wrap64 (x58_4 + 1)), (by first | rfl | (simp; done) | (simp [*]; done)), H', ⟨by have := HJ2.out; have := HK2.out; have := HK3.out; have := HK4.out; omega⟩, ⟨by (with_reducible repeat (first | apply Kd.S_alloc | apply Kd.S_drewN | apply Kd.S_drew)); exact HQ33.out⟩, ⟨by repeat (first | (with_reducible first | exact HI166.out | apply IsS76.alloc | apply IsS76.drewN | apply IsS76.drew | refine IsS76.far ?_ HN166_go30.out _) | exact HI166.out)⟩, ⟨by repeat (first | (with_reducible first | exact HB.out | apply below_alloc | apply pw_below_drewN | apply below_drew1 | refine below_set ?_ GB30.out | refine below_set ?_ (IsS76.ge HI166.out)) | exact HB.out)⟩⟩
                          ·rw [if_neg c28] at H
                           exact absurd H (by simp)
                         ·rw [if_neg c27] at H
                          exact absurd H (by simp)
                        ·rw [if_neg c26] at H
                         exact absurd H (by simp)
                       ·rw [if_neg c25] at H
                        exact absurd H (by simp)
                      ·rw [if_neg c24] at H
                       exact absurd H (by simp)
                     ·rw [if_neg c23] at H
                      have c23b0 : decide (x58_4 < ((rd_L1 l1 x46_3).length : Int)) = false := decide_eq_false c23
                      clear c23
                      have H' := Aside0.mk H
                      clear H
                      go_wp2
                      go_roundg k4
                      case measure => have := HJ2.out; have := HK2.out; have := HK3.out; have := HK4.out; omega
                      case rel => exact ⟨(x7_4), (wrap64 (x46_3 + 1)), (by first | rfl | (simp; done) | (simp [*]; done)), H', ⟨by have := HJ2.out; have := HK2.out; have := HK3.out; have := HK4.out; omega⟩, ⟨by (with_reducible repeat (first | apply Kd.S_alloc | apply Kd.S_drewN | apply Kd.S_drew)); exact HO_7.out⟩, ⟨by repeat (first | (with_reducible first | exact HI166.out | apply IsS76.alloc | apply IsS76.drewN | apply IsS76.drew) | exact HI166.out)⟩, ⟨by repeat (first | (with_reducible first | exact HB.out | apply below_alloc | apply pw_below_drewN | apply below_drew1 | refine below_set ?_ (IsS76.ge HI166.out)) | exact HB.out)⟩⟩
                  ·rw [if_neg c22] at H
                   exact absurd H (by simp)
                ·rw [if_neg c20] at H
                 exact absurd H (by simp)
               ·rw [if_neg c19] at H
                exact absurd H (by simp)
              ·rw [if_neg c18] at H
               have c18b0 : decide (x46_3 < ((rd_L1 l0 x39_2).length : Int)) = false := decide_eq_false c18
               clear c18
               have H' := Aside0.mk H
               clear H
               go_wp2
               go_roundg k3
               case measure => have := HJ2.out; have := HK2.out; have := HK3.out; omega
               case rel => exact ⟨(x7_3), (wrap64 (x39_2 + 1)), (by first | rfl | (simp; done) | (simp [*]; done)), H', ⟨by have := HJ2.out; have := HK2.out; have := HK3.out; omega⟩, ⟨by (with_reducible repeat (first | apply Kd.S_alloc | apply Kd.S_drewN | apply Kd.S_drew)); exact HO_7.out⟩, ⟨by repeat (first | (with_reducible first | exact HI166.out | apply IsS76.alloc | apply IsS76.drewN | apply IsS76.drew) | exact HI166.out)⟩, ⟨by repeat (first | (with_reducible first | exact HB.out | apply below_alloc | apply pw_below_drewN | apply below_drew1 | refine below_set ?_ (IsS76.ge HI166.out)) | exact HB.out)⟩⟩
           ·rw [if_neg c17] at H
            exact absurd H (by simp)
          ·rw [if_neg c16] at H
           exact absurd H (by simp)
         ·rw [if_neg c15] at H
          have c15b0 : decide (x39_2 < (l0.length : Int)) = false := decide_eq_false c15
          clear c15
          simp only [Option.some.injEq, Prod.mk.injEq] at H
          obtain ⟨rfl, rfl⟩ := H
          go_wp2
          go_ret2
          exact ⟨_, by first | rfl | (simp [errW_none, errW_some] <;> rfl) | (simp [*, errW_none, errW_some] <;> rfl), by (with_reducible repeat (first | apply Kd.S_alloc | apply Kd.S_drewN | apply Kd.S_drew)); exact HO_7.out, by repeat (first | (with_reducible first | exact HB.out | apply below_alloc | apply pw_below_drewN | apply below_drew1 | refine below_set ?_ (IsS76.ge HI166.out)) | exact HB.out)⟩
      ·rw [if_neg c11] at H
       exact absurd H (by simp)
     ·rw [if_neg c9] at H
      have c9b0 : (((rd_L1 l0 0).length : Int) == (l1.length : Int)) = false := beq_eq_false_iff_ne.mpr c9
      have c9b1 : (((rd_L1 l0 0).length : Int) != (l1.length : Int)) = true := bne_iff_ne.mpr c9
      have c9b2 : ((rd_L1 l0 0).length == l1.length) = false := by first | simpa using c9 | (simp at c9 ⊢; omega)
      simp only [Option.some.injEq, Prod.mk.injEq] at H
      obtain ⟨rfl, rfl⟩ := H
      have p165 : 0 ≤ (0 : Int) := (by omega)
      have q165 : 0 < (l0.length : Int) := of_decide_eq_true (by first | (with_reducible assumption) | assumption)
      obtain ⟨ad165, A165_0, c165_0, e165, hx165_0, hl165_0, hi165_0⟩ := at_L1 HR0.out 0 p165 q165
      cases e165
      have qi165 : (0 < l0.length) = True := eq_true (by omega)
      (try rw [show ((0 : Int)).toNat = 0 from rfl] at hx165_0)
      (try rw [Addr.add_zero'] at hx165_0)
      replace hx165_0 := (HB.out.cell (World.block_lt_of_cell? w _ hx165_0)).trans hx165_0
      have HR165_0 := Aside0.mk hi165_0
      have HC165_0 := Aside0.mk hl165_0
      clear hi165_0 hl165_0
      replace p165 := eq_true p165
      replace q165 := eq_true q165
      go_wp2
      go_ret2
      exact ⟨_, by first | rfl | (simp [errW_none, errW_some] <;> rfl) | (simp [*, errW_none, errW_some] <;> rfl), by first | exact Kd.S_nil _ _ _ _ _ | exact Kd.N_nil _ _ _ _ _ | exact Kd.V_nil _ _ _ _ _ | exact Kd.Q_nil _ _ _ _ _ | exact Kd.R_nil _ _ _ _ _, by repeat (first | (with_reducible first | exact HB.out | apply below_alloc | apply pw_below_drewN | apply below_drew1) | exact HB.out)⟩
    ·rw [if_neg c8] at H
     exact absurd H (by simp)

end Go.Proofs.Ytidogckochpbgaa.A
