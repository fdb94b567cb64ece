-- Printed for this claim by mp.py, a program of its prover, through the kit's print. Lean checks it.
import Derived.Test.YtidogckochpbgaaAx0
import Derived.Test.YtidogckochpbgaaAx1
import Derived.Test.YtidogckochpbgaaAx2
namespace Go.Proofs.Ytidogckochpbgaa.A
open Go.RowKit Go.Proofs.YtidogckochpbgaaW.PrintWords Go.Proofs.YtidogckochpbgaaW.PrintLast Go.Proofs.YtidogckochpbgaaW.PrintMore
attribute [local go_sem] max2_int min2_int max_two min_two max_three min_three max_four min_four   -- for this text's walks alone
set_option linter.unusedVariables false
set_option linter.unusedSimpArgs false

/-! ### matrix_Vandermonde: function 13 -/
mutual
def matrix_Vandermonde.j0 : Nat → Int → Int → Bool → Option ((List (List Int)) × Int)
  | 0, _, _, _ => none
  | k + 1, x0, x1, x22 => if x22 = true then (some (([] : List (List Int)), 100)) else ((matrix_blank.f k x0 x1).bind fun t137 => (matrix_Vandermonde.l0 k x1 t137 (t137.length : Int) 0))
def matrix_Vandermonde.l0 : Nat → Int → List (List Int) → Int → Int → Option ((List (List Int)) × Int)
  | 0, _, _, _, _ => none
  | k + 1, x1, x6, x27, x28 => if x28 < x27 then (if 0 ≤ x28 then (if x28 < (x6.length : Int) then (if 0 < ((rd_L1 x6 x28).length : Int) then (matrix_Vandermonde.l1 k x1 (x6.set (x28 : Int).toNat ((rd_L1 x6 x28).set (0 : Int).toNat 1)) x28 1 x27 x28) else (none)) else (none)) else (none)) else (some (x6, 0))
def matrix_Vandermonde.l1 : Nat → Int → List (List Int) → Int → Int → Int → Int → Option ((List (List Int)) × Int)
  | 0, _, _, _, _, _, _ => none
  | k + 1, x1, x6, x7, x8, x27, x28 => if x8 < x1 then (if 0 ≤ x7 then (if x7 < (x6.length : Int) then (if 0 ≤ (wrap64 (x8 - 1)) then (if (wrap64 (x8 - 1)) < ((rd_L1 x6 x7).length : Int) then ((gf8_Mul.f k (rd (rd_L1 x6 x7) (wrap64 (x8 - 1))) ((x7) % 256)).bind fun t147 => (if 0 ≤ x8 then (if x8 < ((rd_L1 x6 x7).length : Int) then (matrix_Vandermonde.l1 k x1 (x6.set (x7 : Int).toNat ((rd_L1 x6 x7).set (x8 : Int).toNat t147)) x7 (wrap64 (x8 + 1)) x27 x28) else (none)) else (none))) else (none)) else (none)) else (none)) else (none)) else (matrix_Vandermonde.l0 k x1 x6 x27 (wrap64 (x28 + 1)))
end
def matrix_Vandermonde.f (k : Nat) (a0 : Int) (a1 : Int) : Option ((List (List Int)) × Int) := if a0 < 1 then (matrix_Vandermonde.j0 k a0 a1 true) else (if a0 > 256 then (matrix_Vandermonde.j0 k a0 a1 true) else (if a1 < 1 then (matrix_Vandermonde.j0 k a0 a1 true) else (matrix_Vandermonde.j0 k a0 a1 (decide (a1 > 512)))))
theorem matrix_Vandermonde.mono_l : ∀ k, (∀ y0 y1 y2, LeO (matrix_Vandermonde.j0 k y0 y1 y2) (matrix_Vandermonde.j0 (k + 1) y0 y1 y2)) ∧ (∀ y0 y1 y2 y3, LeO (matrix_Vandermonde.l0 k y0 y1 y2 y3) (matrix_Vandermonde.l0 (k + 1) y0 y1 y2 y3)) ∧ (∀ y0 y1 y2 y3 y4 y5, LeO (matrix_Vandermonde.l1 k y0 y1 y2 y3 y4 y5) (matrix_Vandermonde.l1 (k + 1) y0 y1 y2 y3 y4 y5))
  | 0 => ⟨fun _ _ _ r h => by simp [matrix_Vandermonde.j0] at h, fun _ _ _ _ r h => by simp [matrix_Vandermonde.l0] at h, fun _ _ _ _ _ _ r h => by simp [matrix_Vandermonde.l1] at h⟩
  | k + 1 => by
    obtain ⟨ih0, ih1, ih2⟩ := matrix_Vandermonde.mono_l k
    refine ⟨?_, ?_, ?_⟩
    · intro y0 y1 y2
      unfold matrix_Vandermonde.j0
      repeat' first
      | (with_reducible exact ih0 _ _ _)
      | (with_reducible exact ih1 _ _ _ _)
      | (with_reducible exact ih2 _ _ _ _ _ _)
      | (with_reducible exact gf8_Mul.mono _ _ _)
      | (with_reducible exact matrix_blank.mono _ _ _)
      | (with_reducible exact LeO.refl _)
      | (with_reducible exact LeO.none _)
      | (with_reducible refine LeO.ite ?_ ?_)
      | (with_reducible refine LeO.bind ?_ (fun _ => ?_))
      | exact ih0 _ _ _
      | exact ih1 _ _ _ _
      | exact ih2 _ _ _ _ _ _
      | exact gf8_Mul.mono _ _ _
      | exact matrix_blank.mono _ _ _
      | exact LeO.none _
      | refine LeO.ite ?_ ?_
      | refine LeO.bind ?_ (fun _ => ?_)
    · intro y0 y1 y2 y3
      unfold matrix_Vandermonde.l0
      repeat' first
      | (with_reducible exact ih0 _ _ _)
      | (with_reducible exact ih1 _ _ _ _)
      | (with_reducible exact ih2 _ _ _ _ _ _)
      | (with_reducible exact gf8_Mul.mono _ _ _)
      | (with_reducible exact matrix_blank.mono _ _ _)
      | (with_reducible exact LeO.refl _)
      | (with_reducible exact LeO.none _)
      | (with_reducible refine LeO.ite ?_ ?_)
      | (with_reducible refine LeO.bind ?_ (fun _ => ?_))
      | exact ih0 _ _ _
      | exact ih1 _ _ _ _
      | exact ih2 _ _ _ _ _ _
      | exact gf8_Mul.mono _ _ _
      | exact matrix_blank.mono _ _ _
      | exact LeO.none _
      | refine LeO.ite ?_ ?_
      | refine LeO.bind ?_ (fun _ => ?_)
    · intro y0 y1 y2 y3 y4 y5
      unfold matrix_Vandermonde.l1
      repeat' first
      | (with_reducible exact ih0 _ _ _)
      | (with_reducible exact ih1 _ _ _ _)
      | (with_reducible exact ih2 _ _ _ _ _ _)
      | (with_reducible exact gf8_Mul.mono _ _ _)
      | (with_reducible exact matrix_blank.mono _ _ _)
      | (with_reducible exact LeO.refl _)
      | (with_reducible exact LeO.none _)
      | (with_reducible refine LeO.ite ?_ ?_)
      | (with_reducible refine LeO.bind ?_ (fun _ => ?_))
      | exact ih0 _ _ _
      | exact ih1 _ _ _ _
      | exact ih2 _ _ _ _ _ _
      | exact gf8_Mul.mono _ _ _
      | exact matrix_blank.mono _ _ _
      | exact LeO.none _
      | refine LeO.ite ?_ ?_
      | refine LeO.bind ?_ (fun _ => ?_)
theorem matrix_Vandermonde.mono : ∀ a0 a1 k, LeO (matrix_Vandermonde.f k a0 a1) (matrix_Vandermonde.f (k + 1) a0 a1) := by
  intro a0 a1 k
  obtain ⟨ih0, ih1, ih2⟩ := matrix_Vandermonde.mono_l k
  unfold matrix_Vandermonde.f
  repeat' first
      | (with_reducible exact ih0 _ _ _)
      | (with_reducible exact ih1 _ _ _ _)
      | (with_reducible exact ih2 _ _ _ _ _ _)
      | (with_reducible exact gf8_Mul.mono _ _ _)
      | (with_reducible exact matrix_blank.mono _ _ _)
      | (with_reducible exact LeO.refl _)
      | (with_reducible exact LeO.none _)
      | (with_reducible refine LeO.ite ?_ ?_)
      | (with_reducible refine LeO.bind ?_ (fun _ => ?_))
      | exact ih0 _ _ _
      | exact ih1 _ _ _ _
      | exact ih2 _ _ _ _ _ _
      | exact gf8_Mul.mono _ _ _
      | exact matrix_blank.mono _ _ _
      | exact LeO.none _
      | refine LeO.ite ?_ ?_
      | refine LeO.bind ?_ (fun _ => ?_)
def matrix_Vandermonde.T11 : Bool × List (List Nat × List Nat) := (true, [([], []), ([], []), ([0, 1], [0, 1]), ([2], [2]), ([], []), ([], []), ([], []), ([5, 6], [5, 6]), ([7], [7]), ([], []), ([9], [9]), ([8, 10], [8, 10]), ([11], [11]), ([], []), ([13], [13]), ([12, 14], [12, 14]), ([3, 4, 0, 1, 2, 3, 4, 5, 6, 7, 8, 9, 10, 11, 12, 13, 14, 15], [3, 4]), ([16, 15, 15, 0, 1, 2, 3, 4, 5, 6, 7, 8, 9, 10, 11, 12, 13, 14, 15], [15, 16])])
def matrix_Vandermonde.B11 : List Nat := [0, 0, 3, 7, 0, 0, 0, 96, 224, 0, 512, 2016, 4064, 0, 8192, 32736, 65535, 131071]
theorem matrix_Vandermonde.tab11 : rtab .any (opsOf Try.f13 11) = matrix_Vandermonde.T11 := by kernel_rfl
theorem matrix_Vandermonde.bits11 : waitsOk matrix_Vandermonde.T11.2 matrix_Vandermonde.B11 = true := by kernel_rfl
set_option maxHeartbeats 8000000 in
set_option maxRecDepth 100000 in
theorem matrix_Vandermonde.calls (k : Nat) (a0 : Int) (a1 : Int) (r1 : List (List Int)) (r2 : Int) (w : World) (h : matrix_Vandermonde.f k a0 a1 = some (r1, r2)) :
    Calls Try.prog 13 #[.int .i64 a0, .int .i64 a1] w fun e w' => ∃ v0_ : Value, e = .returned (.tuple #[v0_, .int .i64 r2]) ∧ Kd.S (Kd.slice 5 (Kd.int .u8)) 31 w' w.heap.size (fun _ => True) v0_ r1 ∧ Below w.heap.size w w' := by
  have HB := Aside0.mk (Below.refl w.heap.size w)
  have H : (if a0 < 1 then (matrix_Vandermonde.j0 k a0 a1 true) else (if a0 > 256 then (matrix_Vandermonde.j0 k a0 a1 true) else (if a1 < 1 then (matrix_Vandermonde.j0 k a0 a1 true) else (matrix_Vandermonde.j0 k a0 a1 (decide (a1 > 512)))))) = some (r1, r2) := h
  clear h
  have HC3 := Aside0.mk H
  clear H
  go_enter Try.func13, Try.ntmps13
  go_upto_region 1 with (fail)
  go_cut [22] (fun v22 wc => ∃ (kq : Nat) (x22_2 : Bool), v22 = .bool x22_2 ∧ Aside0 (matrix_Vandermonde.j0 kq a0 a1 x22_2 = some (r1, r2)) ∧ Aside0 (kq ≤ k) ∧ Aside0 (Below w.heap.size w wc))
  case first =>
    have H := HC3.out
    clear HC3
    by_cases c4 : a0 < 1
    · rw [if_pos c4] at H
      have c4b0 : decide (a0 < 1) = true := decide_eq_true c4
      clear c4
      (first | rw [c4b0] | (simp only [i64_w, i32_w]; rw [c4b0]) | skip)
      have H' := Aside0.mk H
      clear H
      go_wp2
      go_meet
      case rel => exact ⟨_, (true), (by first | rfl | (simp; done) | (simp [*]; done)), H', ⟨by first | omega | exact Nat.le_refl _⟩, ⟨by repeat (first | (with_reducible first | exact HB.out | apply below_alloc | apply pw_below_drewN | apply below_drew1) | exact HB.out)⟩⟩
    · rw [if_neg c4] at H
      have c4b0 : decide (a0 < 1) = false := decide_eq_false c4
      clear c4
      (first | rw [c4b0] | (simp only [i64_w, i32_w]; rw [c4b0]) | skip)
      by_cases c5 : a0 > 256
      · rw [if_pos c5] at H
        have c5b0 : decide (256 < a0) = true := decide_eq_true c5
        clear c5
        have H' := Aside0.mk H
        clear H
        go_wp2
        go_meet
        case rel => exact ⟨_, (true), (by first | rfl | (simp; done) | (simp [*]; done)), H', ⟨by first | omega | exact Nat.le_refl _⟩, ⟨by repeat (first | (with_reducible first | exact HB.out | apply below_alloc | apply pw_below_drewN | apply below_drew1) | exact HB.out)⟩⟩
      · rw [if_neg c5] at H
        have c5b0 : decide (256 < a0) = false := decide_eq_false c5
        clear c5
        by_cases c6 : a1 < 1
        · rw [if_pos c6] at H
          have c6b0 : decide (a1 < 1) = true := decide_eq_true c6
          clear c6
          have H' := Aside0.mk H
          clear H
          go_wp2
          go_meet
          case rel => exact ⟨_, (true), (by first | rfl | (simp; done) | (simp [*]; done)), H', ⟨by first | omega | exact Nat.le_refl _⟩, ⟨by repeat (first | (with_reducible first | exact HB.out | apply below_alloc | apply pw_below_drewN | apply below_drew1) | exact HB.out)⟩⟩
        · rw [if_neg c6] at H
          have c6b0 : decide (a1 < 1) = false := decide_eq_false c6
          clear c6
          have H' := Aside0.mk H
          clear H
          go_wp2
          go_meet
          case rel => exact ⟨_, (decide (a1 > 512)), (by first | rfl | (simp; done) | (simp [*]; done)), H', ⟨by first | omega | exact Nat.le_refl _⟩, ⟨by repeat (first | (with_reducible first | exact HB.out | apply below_alloc | apply pw_below_drewN | apply below_drew1) | exact HB.out)⟩⟩
  case rest =>
    clear HC3
    try clear c1
    try clear p2
    try clear c4
    try clear c4b0
    try clear c5
    try clear c5b0
    try clear c6
    try clear c6b0
    obtain ⟨kq, x22_2, rfl, HA, HJ2, HB⟩ := hcut
    cases kq with
    | zero => exact absurd HA.out (by simp [matrix_Vandermonde.j0])
    | succ kj2 =>
      have H := HA.out
      clear HA
      simp only [matrix_Vandermonde.j0] at H
      by_cases c7 : x22_2 = true
      · subst c7
        have H1 : (some (([] : List (List Int)), 100)) = some (r1, r2) := by rw [if_pos rfl] at H; exact H
        clear H
        have H := H1
        clear H1
        simp only [Option.some.injEq, Prod.mk.injEq] at H
        obtain ⟨rfl, rfl⟩ := H
        go_wp2
        go_ret2
        exact ⟨_, by first | rfl | (simp [errW_none, errW_some] <;> rfl) | (simp [*, errW_none, errW_some] <;> rfl), by first | exact Kd.S_nil _ _ _ _ _ | exact Kd.N_nil _ _ _ _ _ | exact Kd.V_nil _ _ _ _ _ | exact Kd.Q_nil _ _ _ _ _ | exact Kd.R_nil _ _ _ _ _, by repeat (first | (with_reducible first | exact HB.out | apply below_alloc | apply pw_below_drewN | apply below_drew1) | exact HB.out)⟩
      · replace c7 := Bool.eq_false_iff.mpr c7
        subst c7
        have H1 : ((matrix_blank.f kj2 a0 a1).bind fun t137 => (matrix_Vandermonde.l0 kj2 a1 t137 (t137.length : Int) 0)) = some (r1, r2) := by rw [if_neg (show ¬ (false = true) by decide)] at H; exact H
        clear H
        have H := H1
        clear H1
        replace H := Option.bind_eq_some_iff.mp H
        obtain ⟨t137, A80, H⟩ := H
        replace H : (matrix_Vandermonde.l0 kj2 a1 t137 (t137.length : Int) 0) = some (r1, r2) := H
        have A8 := Aside0.mk A80
        clear A80
        have H' := Aside0.mk H
        clear H
        go_wp2_with (first | ((with_reducible refine gate_callee (f := 43) rfl ?_); refine goesL_ (some 25) rfl rfl Try.func43 (by kernel_rfl) rfl #[.int .i64 a0, .int .i64 a1] rfl (by (try simp only [List.map_toArray, List.map_cons, List.map_nil]); first | done | rfl | (simp only [tb_wrap8]; done) | (simp only [tb_wrap8]; rfl) | (simp only [List.length_drop, List.length_take]; rfl)) ?_; (with_reducible refine (matrix_blank.calls kj2 a0 a1 t137 _ A8.out).mono ?_); rintro e w9 ⟨v138, rfl, ho0, hb⟩; refine ⟨_, rfl, ?_⟩; have n0_ := Aside0.mk (Kd.S_lower ho0 (below_size (by repeat (first | (with_reducible first | exact HB.out | apply below_alloc | apply pw_below_drewN | apply below_drew1) | exact HB.out)))); have n1_ := Aside0.mk (below_step (by repeat (first | (with_reducible first | exact HB.out | apply below_alloc | apply pw_below_drewN | apply below_drew1) | exact HB.out)) hb); clear HB; have HO139 := n0_; have HB := n1_; clear n0_ n1_; (try clear hb); (try clear hb2); (try clear hk); (try clear hi); (try clear ho0); obtain ⟨Ao10, co10, eo10⟩ := Kd.S_slice HO139.out; subst eo10))
        go_loopg [28] kj2 (fun kq v28 w' => ∃ (x6_2 : List (List Int)) (x28_2 : Int), v28 = .int .i64 x28_2 ∧ Aside0 (matrix_Vandermonde.l0 kq a1 x6_2 (t137.length : Int) x28_2 = some (r1, r2)) ∧ Aside0 (kq ≤ kj2) ∧ Aside0 (Kd.S (Kd.slice 5 (Kd.int .u8)) 31 w' w.heap.size (fun _ => True) (.slice Ao10 t137.length co10) x6_2) ∧ Aside0 (Below w.heap.size w w'))
        case atStart => exact ⟨(t137), (0), (by first | rfl | (simp; done) | (simp [*]; done)), H', ⟨Nat.le_refl _⟩, ⟨by (with_reducible repeat (first | apply Kd.S_alloc | apply Kd.S_drewN | apply Kd.S_drew)); exact HO139.out⟩, ⟨by repeat (first | (with_reducible first | exact HB.out | apply below_alloc | apply pw_below_drewN | apply below_drew1) | exact HB.out)⟩⟩
        case round =>
          clear H'
          try clear c1
          try clear p2
          try clear c4
          try clear c4b0
          try clear c5
          try clear c5b0
          try clear c6
          try clear c6b0
          try clear c7
          try clear p8
          try clear p2
          obtain ⟨x6_2, x28_2, rfl, HA, HK2, HO_6, HB⟩ := hrel
          have hl6_2 := (Kd.S_reads' HO_6.out).1
          rw [hl6_2] at HO_6
          (try simp only [hl6_2])
          cases gk with
          | zero => exact absurd HA.out (by simp [matrix_Vandermonde.l0])
          | succ k2 =>
            have H := HA.out
            clear HA
            simp only [matrix_Vandermonde.l0] at H
            by_cases c11 : x28_2 < (t137.length : Int)
            · rw [if_pos c11] at H
              have c11b0 : decide (x28_2 < (t137.length : Int)) = true := decide_eq_true c11
              (try simp only [hl6_2] at c11b0)
              clear c11
              by_cases c12 : 0 ≤ x28_2
              · rw [if_pos c12] at H
                have c12b0 : decide (0 ≤ x28_2) = true := decide_eq_true c12
                (try simp only [hl6_2] at c12b0)
                clear c12
                by_cases c13 : x28_2 < (x6_2.length : Int)
                · rw [if_pos c13] at H
                  have c13b0 : decide (x28_2 < (x6_2.length : Int)) = true := decide_eq_true c13
                  (try simp only [hl6_2] at c13b0)
                  clear c13
                  by_cases c14 : 0 < ((rd_L1 x6_2 x28_2).length : Int)
                  · rw [if_pos c14] at H
                    have c14b0 : decide (0 < ((rd_L1 x6_2 x28_2).length : Int)) = true := decide_eq_true c14
                    (try simp only [hl6_2] at c14b0)
                    have c14b1 : decide (0 < (rd_L1 x6_2 x28_2).length) = true := decide_eq_true (by omega)
                    (try simp only [hl6_2] at c14b1)
                    clear c14
                    obtain ⟨y141, hy141⟩ : ∃ y_ : List Int, y_ = ((rd_L1 x6_2 x28_2).set (0 : Int).toNat 1) := ⟨_, rfl⟩
                    replace H : (matrix_Vandermonde.l1 k2 a1 (x6_2.set (x28_2 : Int).toNat y141) x28_2 1 (t137.length : Int) x28_2) = some (r1, r2) := by first | (rw [hy141]; with_reducible exact H) | (have H2_ := (Option.bind_some _ _).symm.trans H; rw [hy141]; with_reducible exact H2_) | (have H2_ := (Option.bind_some _ _).symm.trans H; with_reducible exact H2_) | with_reducible exact H | (rw [hy141]; exact H) | exact H
                    have Ny141 := Aside0.mk hy141
                    clear hy141
                    obtain ⟨y143, hy143⟩ : ∃ y_ : List (List Int), y_ = (x6_2.set (x28_2 : Int).toNat y141) := ⟨_, rfl⟩
                    replace H : (matrix_Vandermonde.l1 k2 a1 y143 x28_2 1 (t137.length : Int) x28_2) = some (r1, r2) := by first | (rw [hy143]; with_reducible exact H) | (have H2_ := (Option.bind_some _ _).symm.trans H; rw [hy143]; with_reducible exact H2_) | (have H2_ := (Option.bind_some _ _).symm.trans H; with_reducible exact H2_) | with_reducible exact H | (rw [hy143]; exact H) | exact H
                    have Ny143 := Aside0.mk hy143
                    clear hy143
                    have H' := Aside0.mk H
                    clear H
                    have p140 : 0 ≤ (x28_2 : Int) := of_decide_eq_true (by first | (with_reducible assumption) | assumption)
                    have q140 : x28_2 < (x6_2.length : Int) := of_decide_eq_true (by first | (with_reducible assumption) | assumption)
                    obtain ⟨ad140, A140_0, c140_0, e140, hx140_0, hl140_0, hi140_0⟩ := at_L1 (Kd.S_reads' HO_6.out).2.2 x28_2 p140 q140
                    cases e140
                    obtain ⟨ce140, hce140, hMe140, hcc140⟩ := Kd.S_get HO_6.out [] x28_2 p140 (by first | exact q140 | exact of_decide_eq_true (by first | (with_reducible assumption) | assumption) | (have e_ := (Kd.S_reads' HO_6.out).1; omega))
                    obtain ⟨ve140_0, rfl, ge140_0⟩ := hMe140
                    have hv140_0 := hcc140 0 _ rfl
                    rw [Nat.add_zero, show ((Kd.slice 5 (Kd.int .u8))).sz = 1 from rfl, Nat.mul_one] at hv140_0
                    replace hv140_0 := Option.some.inj (hv140_0.symm.trans hx140_0)
                    rw [hv140_0] at ge140_0
                    have HL140_0 := Aside0.mk (show Kd.R (Kd.int .u8) 5 _ _ _ _ (rd_L1 x6_2 x28_2) from ge140_0)
                    clear hv140_0 ge140_0
                    have HX140_0 := Aside0.mk hx140_0
                    clear hcc140 hce140
                    have HR140_0 := Aside0.mk hi140_0
                    have HC140_0 := Aside0.mk hl140_0
                    clear hi140_0 hl140_0
                    replace p140 := eq_true p140
                    replace q140 := eq_true q140
                    have p15 : 0 ≤ (0 : Int) := (by omega)
                    have q15 : (0 : Int) < (((rd_L1 x6_2 x28_2).length : Int) : Int) := of_decide_eq_true (by first | (with_reducible assumption) | assumption)
                    have qi15 : (0 < (rd_L1 x6_2 x28_2).length) = True := eq_true (by omega)
                    obtain ⟨go15, co15, eo15, gb15, gl15, cl15, HG15⟩ := Kd.R_form HL140_0.out (by omega)
                    (first | cases eo15 | (injection eo15 with ea_ en_ ec_; (first | subst ea_ | (injection ea_ with ea_; subst ea_)); subst ec_; clear en_))
                    have GB15 := Aside0.mk gb15
                    have GG15 := Aside0.mk HG15
                    clear gb15 gl15 HG15
                    obtain ⟨hx15_0, hf15_0⟩ := Kd.R_celln 0 HL140_0.out (0 : Int) p15 q15
                    (try rw [show ((0 : Int)).toNat = 0 from rfl] at hx15_0)
                    (try simp only [Nat.reduceMul, Nat.zero_mul, Nat.zero_add, Nat.reduceAdd] at hx15_0)
                    (try rw [show ((0 : Int)).toNat = 0 from rfl] at hf15_0)
                    (try simp only [Nat.reduceMul, Nat.zero_mul, Nat.zero_add, Nat.reduceAdd] at hf15_0)
                    replace p15 := eq_true p15
                    replace q15 := eq_true q15
                    have hq16 : (x28_2 : Int) < (x6_2.length : Int) := (by have h_ : (x28_2 : Int) < ((x6_2.length : Int) : Int) := of_decide_eq_true (by first | (with_reducible assumption) | assumption); first | exact h_ | (have e_ := (Kd.S_reads' HO_6.out).1; omega) | simpa only [List.length_set, List.length_set] using h_)
                    obtain ⟨oki16, ce16, hcl16, hM16, hcc16, hok16, hbk16⟩ := Kd.S_borrow HO_6.out [] (x28_2 : Int) (of_decide_eq_true (by first | (with_reducible assumption) | assumption)) hq16
                    obtain ⟨ve16_0, rfl, ge16_0⟩ := hM16
                    have hv16 := hcc16 0 _ rfl
                    rw [Nat.add_zero, show ((Kd.slice 5 (Kd.int .u8))).sz = 1 from rfl, Nat.mul_one] at hv16
                    replace hv16 := Option.some.inj (hv16.symm.trans HX140_0.out)
                    subst hv16
                    clear hcc16 hcl16
                    replace ge16_0 := (show Kd.R (Kd.int .u8) 5 _ _ _ _ (rd_L1 x6_2 x28_2) from ge16_0)
                    have HP16 := Kd.R_putg ge16_0 (0 : Int) 1
                    go_wp2_with (first | ((with_reducible refine gate_store (t := 5) (p := 35) rfl ?_); refine store_event (t := 5) (p := 35) (v := ?vo_w17) (w1 := (wr.setCell ⟨go15, 0, none⟩ (.int .u8 1))) ?hg ?ho ?hn ?hr ?_; (case ho => rfl); (case hg => rfl); (case hn => rfl); (case hr => first | (go_simp; done) | (go_simp; rfl)); intro w17 hw; have hg : wr.grownBy w17 (some go15) := (by rw [hw]; exact HP16.2); have hz_ : Kd.R (Kd.int .u8) 5 w17 w.heap.size oki16 (.slice (some ⟨go15, 0, none⟩) (rd_L1 x6_2 x28_2).length c140_0) y141 := (by rw [hw, Ny141.out]; exact HP16.1); have hp_ : Kd.S (Kd.slice 5 (Kd.int .u8)) 31 w17 w.heap.size (fun _ => True) (.slice (some ad140) x6_2.length co10) y143 := (by rw [Ny143.out]; exact hbk16 hg (fun k_ e_ => by injection e_ with e_; subst e_; exact ge16_0.1 _ rfl) (Kd.M_row hz_)); have hm_ := Kd.R_mono hz_ hok16; clear HP16 hbk16; have n0_ := Aside0.mk (hp_); have n1_ := Aside0.mk ((by rw [hw]; exact below_set (HB.out) GB15.out : Below w.heap.size w w17)); have n2_ := Aside0.mk (hm_); have n3_ := Aside0.mk ((Kd.R_reads' hm_).2.1); clear HO_6; clear HB; clear HL140_0; have HO_6 := n0_; have HB := n1_; have HL151 := n2_; have HC142 := n3_; clear n0_ n1_ n2_ n3_; clear hg hw hp_ hz_ hm_ hok16))
                    go_loopg [8] k2 (fun kq v8 w' => ∃ (x6_3 : List (List Int)) (x8_3 : Int), v8 = .int .i64 x8_3 ∧ Aside0 (matrix_Vandermonde.l1 kq a1 x6_3 x28_2 x8_3 (t137.length : Int) x28_2 = some (r1, r2)) ∧ Aside0 (kq ≤ k2) ∧ Aside0 (Kd.S (Kd.slice 5 (Kd.int .u8)) 31 w' w.heap.size (fun _ => True) (.slice (some ad140) x6_2.length co10) x6_3) ∧ Aside0 (Below w.heap.size w w'))
                    case atStart => exact ⟨(y143), (1), (by first | rfl | (simp; done) | (simp [*]; done)), H', ⟨Nat.le_refl _⟩, ⟨by (try simp only [hl6_2]); (with_reducible repeat (first | apply Kd.S_alloc | apply Kd.S_drewN | apply Kd.S_drew)); exact HO_6.out⟩, ⟨by repeat (first | (with_reducible first | exact HB.out | apply below_alloc | apply pw_below_drewN | apply below_drew1) | exact HB.out)⟩⟩
                    case round =>
                      clear H'
                      try clear c1
                      try clear p1
                      try clear q1
                      try clear hx1
                      try clear qi1
                      try clear p2
                      try clear c4
                      try clear c4b0
                      try clear c5
                      try clear c5b0
                      try clear c6
                      try clear c6b0
                      try clear c7
                      try clear p8
                      try clear c11
                      try clear c11b0
                      try clear c12
                      try clear c12b0
                      try clear c13
                      try clear c13b0
                      try clear c14
                      try clear c14b0
                      try clear c14b1
                      try clear p14
                      try clear q14
                      try clear hx14
                      try clear p15
                      try clear q15
                      try clear hx15
                      try clear qi15
                      try clear hf15
                      try clear c16
                      try clear q16
                      try clear hx140_0
                      try clear hx15_0
                      try clear p140
                      try clear p15
                      try clear p2
                      try clear p8
                      try clear q140
                      try clear q15
                      obtain ⟨x6_3, x8_3, rfl, HA, HK3, HO_6, HB⟩ := hrel
                      have hl6_3 := (Kd.S_reads' HO_6.out).1
                      rw [hl6_3] at HO_6
                      (try simp only [hl6_3])
                      cases gk with
                      | zero => exact absurd HA.out (by simp [matrix_Vandermonde.l1])
                      | succ k3 =>
                        have H := HA.out
                        clear HA
                        simp only [matrix_Vandermonde.l1] at H
                        by_cases c18 : x8_3 < a1
                        · rw [if_pos c18] at H
                          have c18b0 : decide (x8_3 < a1) = true := decide_eq_true c18
                          (try simp only [hl6_2] at c18b0)
                          (try simp only [hl6_3] at c18b0)
                          clear c18
                          by_cases c19 : 0 ≤ x28_2
                          · rw [if_pos c19] at H
                            have c19b0 : decide (0 ≤ x28_2) = true := decide_eq_true c19
                            (try simp only [hl6_2] at c19b0)
                            (try simp only [hl6_3] at c19b0)
                            clear c19
                            by_cases c20 : x28_2 < (x6_3.length : Int)
                            · rw [if_pos c20] at H
                              have c20b0 : decide (x28_2 < (x6_3.length : Int)) = true := decide_eq_true c20
                              (try simp only [hl6_2] at c20b0)
                              (try simp only [hl6_3] at c20b0)
                              clear c20
                              obtain ⟨ji21, hji21⟩ : ∃ j_ : Int, (wrap64 (x8_3 - 1)) = j_ := ⟨_, rfl⟩
                              replace H : (if 0 ≤ (ji21) then (if (ji21) < ((rd_L1 x6_3 x28_2).length : Int) then ((gf8_Mul.f k3 (rd (rd_L1 x6_3 x28_2) (ji21)) ((x28_2) % 256)).bind fun t147 => (if 0 ≤ x8_3 then (if x8_3 < ((rd_L1 x6_3 x28_2).length : Int) then (matrix_Vandermonde.l1 k3 a1 (x6_3.set (x28_2 : Int).toNat ((rd_L1 x6_3 x28_2).set (x8_3 : Int).toNat t147)) x28_2 (wrap64 (x8_3 + 1)) (t137.length : Int) x28_2) else (none)) else (none))) else (none)) else (none)) = some (r1, r2) := by first | (rw [hji21] at H; exact H) | (simp only [hji21] at H ⊢; exact H)
                              have hji21w : (IntKind.i64.wrap (x8_3 - 1)) = ji21 := (i64_w _).trans hji21
                              by_cases c22 : 0 ≤ (ji21)
                              · rw [if_pos c22] at H
                                have c22b0 : decide (0 ≤ (ji21)) = true := decide_eq_true c22
                                (try simp only [hl6_2] at c22b0)
                                (try simp only [hl6_3] at c22b0)
                                clear c22
                                by_cases c23 : (ji21) < ((rd_L1 x6_3 x28_2).length : Int)
                                · rw [if_pos c23] at H
                                  have c23b0 : decide ((ji21) < ((rd_L1 x6_3 x28_2).length : Int)) = true := decide_eq_true c23
                                  (try simp only [hl6_2] at c23b0)
                                  (try simp only [hl6_3] at c23b0)
                                  clear c23
                                  replace H := Option.bind_eq_some_iff.mp H
                                  obtain ⟨t147, A240, H⟩ := H
                                  replace H : (if 0 ≤ x8_3 then (if x8_3 < ((rd_L1 x6_3 x28_2).length : Int) then (matrix_Vandermonde.l1 k3 a1 (x6_3.set (x28_2 : Int).toNat ((rd_L1 x6_3 x28_2).set (x8_3 : Int).toNat t147)) x28_2 (wrap64 (x8_3 + 1)) (t137.length : Int) x28_2) else (none)) else (none)) = some (r1, r2) := H
                                  have A24 := Aside0.mk A240
                                  clear A240
                                  by_cases c25 : 0 ≤ x8_3
                                  · rw [if_pos c25] at H
                                    have c25b0 : decide (0 ≤ x8_3) = true := decide_eq_true c25
                                    (try simp only [hl6_2] at c25b0)
                                    (try simp only [hl6_3] at c25b0)
                                    clear c25
                                    by_cases c26 : x8_3 < ((rd_L1 x6_3 x28_2).length : Int)
                                    · rw [if_pos c26] at H
                                      have c26b0 : decide (x8_3 < ((rd_L1 x6_3 x28_2).length : Int)) = true := decide_eq_true c26
                                      (try simp only [hl6_2] at c26b0)
                                      (try simp only [hl6_3] at c26b0)
                                      clear c26
                                      obtain ⟨y148, hy148⟩ : ∃ y_ : List Int, y_ = ((rd_L1 x6_3 x28_2).set (x8_3 : Int).toNat t147) := ⟨_, rfl⟩
                                      replace H : (matrix_Vandermonde.l1 k3 a1 (x6_3.set (x28_2 : Int).toNat y148) x28_2 (wrap64 (x8_3 + 1)) (t137.length : Int) x28_2) = some (r1, r2) := by first | (rw [hy148]; with_reducible exact H) | (have H2_ := (Option.bind_some _ _).symm.trans H; rw [hy148]; with_reducible exact H2_) | (have H2_ := (Option.bind_some _ _).symm.trans H; with_reducible exact H2_) | with_reducible exact H | (rw [hy148]; exact H) | exact H
                                      have Ny148 := Aside0.mk hy148
                                      clear hy148
                                      obtain ⟨y150, hy150⟩ : ∃ y_ : List (List Int), y_ = (x6_3.set (x28_2 : Int).toNat y148) := ⟨_, rfl⟩
                                      replace H : (matrix_Vandermonde.l1 k3 a1 y150 x28_2 (wrap64 (x8_3 + 1)) (t137.length : Int) x28_2) = some (r1, r2) := by first | (rw [hy150]; with_reducible exact H) | (have H2_ := (Option.bind_some _ _).symm.trans H; rw [hy150]; with_reducible exact H2_) | (have H2_ := (Option.bind_some _ _).symm.trans H; with_reducible exact H2_) | with_reducible exact H | (rw [hy150]; exact H) | exact H
                                      have Ny150 := Aside0.mk hy150
                                      clear hy150
                                      have H' := Aside0.mk H
                                      clear H
                                      try go_wp2
                                      have n0_ := Aside0.mk (Kd.S_drew HO_6.out)
                                      have n1_ := Aside0.mk (below_drew1 HB.out)
                                      clear HO_6
                                      clear HB
                                      have HO_6 := n0_
                                      have HB := n1_
                                      clear n0_ n1_
                                      have p144 : 0 ≤ (x28_2 : Int) := of_decide_eq_true (by first | (with_reducible assumption) | assumption)
                                      have q144 : x28_2 < (x6_3.length : Int) := of_decide_eq_true (by first | (with_reducible assumption) | assumption)
                                      obtain ⟨ad144, A144_0, c144_0, e144, hx144_0, hl144_0, hi144_0⟩ := at_L1 (Kd.S_reads' HO_6.out).2.2 x28_2 p144 q144
                                      obtain rfl : ad140 = ad144 := (by injection e144)
                                      obtain ⟨ce144, hce144, hMe144, hcc144⟩ := Kd.S_get HO_6.out [] x28_2 p144 (by first | exact q144 | exact of_decide_eq_true (by first | (with_reducible assumption) | assumption) | (have e_ := (Kd.S_reads' HO_6.out).1; omega))
                                      obtain ⟨ve144_0, rfl, ge144_0⟩ := hMe144
                                      have hv144_0 := hcc144 0 _ rfl
                                      rw [Nat.add_zero, show ((Kd.slice 5 (Kd.int .u8))).sz = 1 from rfl, Nat.mul_one] at hv144_0
                                      replace hv144_0 := Option.some.inj (hv144_0.symm.trans hx144_0)
                                      rw [hv144_0] at ge144_0
                                      have HL144_0 := Aside0.mk (show Kd.R (Kd.int .u8) 5 _ _ _ _ (rd_L1 x6_3 x28_2) from ge144_0)
                                      clear hv144_0 ge144_0
                                      have HX144_0 := Aside0.mk hx144_0
                                      clear hcc144 hce144
                                      have HR144_0 := Aside0.mk hi144_0
                                      have HC144_0 := Aside0.mk hl144_0
                                      clear hi144_0 hl144_0
                                      replace p144 := eq_true p144
                                      replace q144 := eq_true q144
                                      have p145 : 0 ≤ (x28_2 : Int) := of_decide_eq_true (by first | (with_reducible assumption) | assumption)
                                      have q145 : x28_2 < (x6_3.length : Int) := of_decide_eq_true (by first | (with_reducible assumption) | assumption)
                                      obtain ⟨ad145, A145_0, c145_0, e145, hx145_0, hl145_0, hi145_0⟩ := at_L1 (Kd.S_reads' HO_6.out).2.2 x28_2 p145 q145
                                      obtain rfl : ad140 = ad145 := (by injection e145)
                                      obtain ⟨ce145, hce145, hMe145, hcc145⟩ := Kd.S_get HO_6.out [] x28_2 p145 (by first | exact q145 | exact of_decide_eq_true (by first | (with_reducible assumption) | assumption) | (have e_ := (Kd.S_reads' HO_6.out).1; omega))
                                      obtain ⟨ve145_0, rfl, ge145_0⟩ := hMe145
                                      have hv145_0 := hcc145 0 _ rfl
                                      rw [Nat.add_zero, show ((Kd.slice 5 (Kd.int .u8))).sz = 1 from rfl, Nat.mul_one] at hv145_0
                                      replace hv145_0 := Option.some.inj (hv145_0.symm.trans hx145_0)
                                      rw [hv145_0] at ge145_0
                                      have HL145_0 := Aside0.mk (show Kd.R (Kd.int .u8) 5 _ _ _ _ (rd_L1 x6_3 x28_2) from ge145_0)
                                      clear hv145_0 ge145_0
                                      have HX145_0 := Aside0.mk hx145_0
                                      clear hcc145 hce145
                                      have HR145_0 := Aside0.mk hi145_0
                                      have HC145_0 := Aside0.mk hl145_0
                                      clear hi145_0 hl145_0
                                      replace p145 := eq_true p145
                                      replace q145 := eq_true q145
                                      have ea_ := Option.some.inj (hx144_0.symm.trans hx145_0)
                                      injection ea_ with ea_ en_ ec_
                                      subst ea_
                                      subst ec_
                                      clear en_
                                      have p146 : 0 ≤ ((ji21) : Int) := of_decide_eq_true (by first | (with_reducible assumption) | assumption)
                                      have q146 : (ji21) < ((rd_L1 x6_3 x28_2).length : Int) := of_decide_eq_true (by first | (with_reducible assumption) | assumption)
                                      obtain ⟨ad146, e146, hx146_0⟩ := Kd.at_int (by repeat (first | (with_reducible exact HR145_0.out) | (with_reducible refine Kd.C_alloc ?_ _) | (with_reducible refine Kd.C_drewN ?_ _) | (with_reducible refine Kd.C_drew ?_) | exact HR145_0.out)) (ji21) p146 q146
                                      cases e146
                                      replace p146 := eq_true p146
                                      replace q146 := eq_true q146
                                      refine start_ (n := 18) (S := fun w' => w'.cell? (ad140.add (x28_2).toNat) = some (.slice (some ad146) (rd_L1 x6_3 x28_2).length c144_0) ∧ w'.cell? (ad140.add (x28_2).toNat) = some (.slice (some ad146) (rd_L1 x6_3 x28_2).length c144_0) ∧ w'.cell? (ad146.add ((ji21)).toNat) = some (.int .u8 (rd (rd_L1 x6_3 x28_2) (ji21)))) (ds := [17]) #[false, false, false, false, false, false, false, false, false, false, false, false, false, false, false, false, false, false] (by kernel_rfl) rfl rfl ⟨hx144_0, hx145_0, hx146_0⟩ (fun hHeld => ?_); refine with_tabW matrix_Vandermonde.tab11 matrix_Vandermonde.bits11 (fun HT_ HW_ => ?_)
                                      generalize wr.drew = w28 at HO_6 HB HL144_0 HL145_0 HR144_0 HR145_0 HX144_0 HX145_0 hx144_0 hx145_0 hx146_0 hHeld ⊢
                                      refine pure_ (i := 0) (N := some 41) (v := ?_) (a' := ?_) #[true, false, false, false, false, false, false, false, false, false, false, false, false, false, false, false, false, false] rfl rfl (any_of HT_.out (by kernel_rfl)) (fun _ _ _ h => h) (Or.inl ⟨by rfl, ?_⟩) ?_ ?_
                                      rotate_left
                                      · intro w'
                                        go_simp
                                        with_reducible rfl
                                      rotate_left
                                      · simp only [Act.put, List.setIfInBounds_toArray, List.set_cons_zero, List.set_cons_succ, i64_w, i32_w]
                                        rfl
                                      refine pure_ (i := 1) (N := some 42) (v := ?_) (a' := ?_) #[true, true, false, false, false, false, false, false, false, false, false, false, false, false, false, false, false, false] rfl rfl (any_of HT_.out (by kernel_rfl)) (fun _ _ _ h => h) (Or.inl ⟨by rfl, ?_⟩) ?_ ?_
                                      rotate_left
                                      · intro w'
                                        go_simp
                                        with_reducible rfl
                                      rotate_left
                                      · simp only [Act.put, List.setIfInBounds_toArray, List.set_cons_zero, List.set_cons_succ, i64_w, i32_w]
                                        rfl
                                      refine pure_ (i := 2) (N := some 43) (v := ?_) (a' := ?_) #[true, true, true, false, false, false, false, false, false, false, false, false, false, false, false, false, false, false] rfl rfl (any_of HT_.out (by kernel_rfl)) (fun _ _ _ h => h) (Or.inl ⟨by rfl, ?_⟩) ?_ ?_
                                      rotate_left
                                      · intro w'
                                        go_simp
                                        with_reducible rfl
                                      rotate_left
                                      · simp only [Act.put, List.setIfInBounds_toArray, List.set_cons_zero, List.set_cons_succ, i64_w, i32_w]
                                        rfl
                                      refine pure_ (i := 4) (N := some 45) (v := ?_) (a' := ?_) #[true, true, true, false, true, false, false, false, false, false, false, false, false, false, false, false, false, false] rfl rfl (any_of HT_.out (by kernel_rfl)) (fun _ _ _ h => h) (Or.inl ⟨by rfl, ?_⟩) ?_ ?_
                                      rotate_left
                                      · intro w'
                                        go_simp
                                        with_reducible rfl
                                      rotate_left
                                      · simp only [Act.put, List.setIfInBounds_toArray, List.set_cons_zero, List.set_cons_succ, i64_w, i32_w]
                                        rfl
                                      refine pure_ (i := 5) (N := some 46) (v := ?_) (a' := ?_) #[true, true, true, false, true, true, false, false, false, false, false, false, false, false, false, false, false, false] rfl rfl (any_of HT_.out (by kernel_rfl)) (fun _ _ _ h => h) (Or.inl ⟨by rfl, ?_⟩) ?_ ?_
                                      rotate_left
                                      · intro w'
                                        go_simp
                                        with_reducible rfl
                                      rotate_left
                                      · simp only [Act.put, List.setIfInBounds_toArray, List.set_cons_zero, List.set_cons_succ, i64_w, i32_w]
                                        rfl
                                      refine pure_ (i := 6) (N := some 47) (v := ?_) (a' := ?_) #[true, true, true, false, true, true, true, false, false, false, false, false, false, false, false, false, false, false] rfl rfl (any_of HT_.out (by kernel_rfl)) (fun _ _ _ h => h) (Or.inl ⟨by rfl, ?_⟩) ?_ ?_
                                      rotate_left
                                      · intro w'
                                        go_simp
                                        with_reducible rfl
                                      rotate_left
                                      · simp only [Act.put, List.setIfInBounds_toArray, List.set_cons_zero, List.set_cons_succ, i64_w, i32_w]
                                        rfl
                                      refine pure_ (i := 7) (N := some 48) (v := ?_) (a' := ?_) #[true, true, true, false, true, true, true, true, false, false, false, false, false, false, false, false, false, false] rfl rfl (any_of HT_.out (by kernel_rfl)) (fun _ _ _ h => h) (Or.inl ⟨by rfl, ?_⟩) ?_ ?_
                                      rotate_left
                                      · intro w'
                                        go_simp
                                        with_reducible rfl
                                      rotate_left
                                      · simp only [Act.put, List.setIfInBounds_toArray, List.set_cons_zero, List.set_cons_succ, i64_w, i32_w]
                                        rfl
                                      refine pure_ (i := 9) (N := some 50) (v := ?_) (a' := ?_) #[true, true, true, false, true, true, true, true, false, true, false, false, false, false, false, false, false, false] rfl rfl (any_of HT_.out (by kernel_rfl)) (fun _ _ _ h => h) (Or.inl ⟨by rfl, ?_⟩) ?_ ?_
                                      rotate_left
                                      · intro w'
                                        go_simp
                                        with_reducible rfl
                                      rotate_left
                                      · simp only [Act.put, List.setIfInBounds_toArray, List.set_cons_zero, List.set_cons_succ, i64_w, i32_w]
                                        rfl
                                      refine pure_ (i := 10) (N := some 51) (v := ?_) (a' := ?_) #[true, true, true, false, true, true, true, true, false, true, true, false, false, false, false, false, false, false] rfl rfl (any_of HT_.out (by kernel_rfl)) (fun _ _ _ h => h) (Or.inl ⟨by rfl, ?_⟩) ?_ ?_
                                      rotate_left
                                      · intro w'
                                        go_simp
                                        with_reducible rfl
                                      rotate_left
                                      · simp only [Act.put, List.setIfInBounds_toArray, List.set_cons_zero, List.set_cons_succ, i64_w, i32_w]
                                        rfl
                                      refine pure_ (i := 13) (N := some 54) (v := ?_) (a' := ?_) #[true, true, true, false, true, true, true, true, false, true, true, false, false, true, false, false, false, false] rfl rfl (any_of HT_.out (by kernel_rfl)) (fun _ _ _ h => h) (Or.inl ⟨by rfl, ?_⟩) ?_ ?_
                                      rotate_left
                                      · intro w'
                                        go_simp
                                        with_reducible rfl
                                      rotate_left
                                      · simp only [Act.put, List.setIfInBounds_toArray, List.set_cons_zero, List.set_cons_succ, i64_w, i32_w]
                                        rfl
                                      refine pure_ (i := 14) (N := some 55) (v := ?_) (a' := ?_) #[true, true, true, false, true, true, true, true, false, true, true, false, false, true, true, false, false, false] rfl rfl (any_of HT_.out (by kernel_rfl)) (fun _ _ _ h => h) (Or.inl ⟨by rfl, ?_⟩) ?_ ?_
                                      rotate_left
                                      · intro w'
                                        go_simp
                                        with_reducible rfl
                                      rotate_left
                                      · simp only [Act.put, List.setIfInBounds_toArray, List.set_cons_zero, List.set_cons_succ, i64_w, i32_w]
                                        rfl
                                      refine take_ (i := 3) (N := some 44) (v := ?_) (a' := ?_) #[true, true, true, true, true, true, true, true, false, true, true, false, false, true, true, false, false, false] rfl rfl (take_ofW HT_.out HW_.out (by kernel_rfl)) (fun _ _ _ h => h) (Or.inl ⟨by rfl, ?_⟩) hHeld ?_ ?_
                                      rotate_left
                                      · rintro w' ⟨s0, s1, s2⟩
                                        go_simp
                                        with_reducible rfl
                                      rotate_left
                                      · simp only [Act.put, List.setIfInBounds_toArray, List.set_cons_zero, List.set_cons_succ, i64_w, i32_w]
                                        rfl
                                      refine take_ (i := 8) (N := some 49) (v := ?_) (a' := ?_) #[true, true, true, true, true, true, true, true, true, true, true, false, false, true, true, false, false, false] rfl rfl (take_ofW HT_.out HW_.out (by kernel_rfl)) (fun _ _ _ h => h) (Or.inl ⟨by rfl, ?_⟩) hHeld ?_ ?_
                                      rotate_left
                                      · rintro w' ⟨s0, s1, s2⟩
                                        go_simp
                                        with_reducible rfl
                                      rotate_left
                                      · simp only [Act.put, List.setIfInBounds_toArray, List.set_cons_zero, List.set_cons_succ, i64_w, i32_w]
                                        rfl
                                      refine pure_ (i := 11) (N := some 52) (v := ?_) (a' := ?_) #[true, true, true, true, true, true, true, true, true, true, true, true, false, true, true, false, false, false] rfl rfl (any_of HT_.out (by kernel_rfl)) (fun _ _ _ h => h) (Or.inl ⟨by rfl, ?_⟩) ?_ ?_
                                      rotate_left
                                      · intro w'
                                        go_simp
                                        with_reducible rfl
                                      rotate_left
                                      · simp only [Act.put, List.setIfInBounds_toArray, List.set_cons_zero, List.set_cons_succ, i64_w, i32_w]
                                        rfl
                                      refine take_ (i := 12) (N := some 53) (v := ?_) (a' := ?_) #[true, true, true, true, true, true, true, true, true, true, true, true, true, true, true, false, false, false] rfl rfl (take_ofW HT_.out HW_.out (by kernel_rfl)) (fun _ _ _ h => h) (Or.inl ⟨by rfl, ?_⟩) hHeld ?_ ?_
                                      rotate_left
                                      · rintro w' ⟨s0, s1, s2⟩
                                        go_simp
                                        with_reducible rfl
                                      rotate_left
                                      · simp only [Act.put, List.setIfInBounds_toArray, List.set_cons_zero, List.set_cons_succ, i64_w, i32_w]
                                        rfl
                                      refine one_ (i := 15) (N := some 56) #[true, true, true, true, true, true, true, true, true, true, true, true, true, true, true, true, false, false] rfl rfl (one_of HT_.out (by kernel_rfl)) (by decide) (fun K hK => ?_)
                                      refine goes_ Try.func17 (by kernel_rfl) rfl #[.int .u8 (rd (rd_L1 x6_3 x28_2) (ji21)), .int .u8 ((x28_2) % 256)] (by rfl) rfl rfl (by (try simp only [List.map_toArray, List.map_cons, List.map_nil]); first | done | (simp only [hji21]; rfl) | rfl | (simp only [tb_wrap8]; done) | (simp only [tb_wrap8]; rfl) | (simp only [List.length_drop, List.length_take]; rfl)) ?_
                                      with_reducible refine (gf8_Mul.calls k3 (rd (rd_L1 x6_3 x28_2) (ji21)) ((x28_2) % 256) t147 _ A24.out).mono ?_
                                      rintro e w' ⟨rfl, ⟨nd, rfl⟩⟩
                                      refine ⟨_, rfl, ?_⟩
                                      have p27 : 0 ≤ (x8_3 : Int) := of_decide_eq_true (by first | (with_reducible assumption) | assumption)
                                      have q27 : (x8_3 : Int) < (((rd_L1 x6_3 x28_2).length : Int) : Int) := of_decide_eq_true (by first | (with_reducible assumption) | assumption)
                                      obtain ⟨go27, co27, eo27, gb27, gl27, cl27, HG27⟩ := Kd.R_form HL144_0.out (by omega)
                                      (first | cases eo27 | (injection eo27 with ea_ en_ ec_; (first | subst ea_ | (injection ea_ with ea_; subst ea_)); subst ec_; clear en_))
                                      have GB27 := Aside0.mk gb27
                                      have GG27 := Aside0.mk HG27
                                      clear gb27 gl27 HG27
                                      (first | simp only [add_plain] at hx146_0 | skip)
                                      obtain ⟨hx27_0, hf27_0⟩ := Kd.R_celln 0 HL144_0.out (x8_3 : Int) p27 q27
                                      replace p27 := eq_true p27
                                      replace q27 := eq_true q27
                                      have hq29 : (x28_2 : Int) < (x6_3.length : Int) := (by have h_ : (x28_2 : Int) < ((x6_3.length : Int) : Int) := of_decide_eq_true (by first | (with_reducible assumption) | assumption); first | exact h_ | (have e_ := (Kd.S_reads' HO_6.out).1; omega) | simpa only [List.length_set, List.length_set] using h_)
                                      obtain ⟨oki29, ce29, hcl29, hM29, hcc29, hok29, hbk29⟩ := Kd.S_borrow HO_6.out [] (x28_2 : Int) (of_decide_eq_true (by first | (with_reducible assumption) | assumption)) hq29
                                      obtain ⟨ve29_0, rfl, ge29_0⟩ := hM29
                                      have hv29 := hcc29 0 _ rfl
                                      rw [Nat.add_zero, show ((Kd.slice 5 (Kd.int .u8))).sz = 1 from rfl, Nat.mul_one] at hv29
                                      replace hv29 := Option.some.inj (hv29.symm.trans HX144_0.out)
                                      subst hv29
                                      clear hcc29 hcl29
                                      replace ge29_0 := (show Kd.R (Kd.int .u8) 5 _ _ _ _ (rd_L1 x6_3 x28_2) from ge29_0)
                                      have HP29 := Kd.R_putg ge29_0 (x8_3 : Int) t147
                                      rw [← Ny148.out] at HP29
                                      have HS29 := hbk29 HP29.2 (fun k_ e_ => by injection e_ with e_; subst e_; exact ge29_0.1 _ rfl) (x' := y148) (Kd.M_row HP29.1)
                                      rw [← Ny150.out] at HS29
                                      have HQ29 := Aside0.mk HS29
                                      clear HP29 HS29 hbk29 hok29
                                      refine hK.out _ _ ⟨hHeld.1, hHeld.2.1, hHeld.2.2⟩ (fun hHeld => ?_)
                                      clear hK K
                                      refine norm_ (a' := ?_) ?_ ?_
                                      rotate_left
                                      · show Act.put _ (some 56) _ = _
                                        simp only [Act.put, List.setIfInBounds_toArray, List.set_cons_zero, List.set_cons_succ, i64_w, i32_w]
                                        rfl
                                      refine pure_ (i := 16) (N := some 57) (v := ?_) (a' := ?_) #[true, true, true, true, true, true, true, true, true, true, true, true, true, true, true, true, true, false] rfl rfl (any_of HT_.out (by kernel_rfl)) (fun _ _ _ h => h) (Or.inl ⟨by rfl, ?_⟩) ?_ ?_
                                      rotate_left
                                      · intro w'
                                        go_simp
                                        with_reducible rfl
                                      rotate_left
                                      · simp only [Act.put, List.setIfInBounds_toArray, List.set_cons_zero, List.set_cons_succ, i64_w, i32_w]
                                        rfl
                                      refine last_ (i := 17) (N := none) #[true, true, true, true, true, true, true, true, true, true, true, true, true, true, true, true, true, true] rfl rfl (one_of HT_.out (by kernel_rfl)) (by decide) (fun K hK => ?_)
                                      refine skip_ (w1 := ?_) (by rfl) rfl ?_ ?_
                                      rotate_left
                                      · go_simp
                                        rfl
                                      refine hK.out _ _ ?_
                                      clear hK K
                                      refine done_ (done_of HT_.out (by kernel_rfl)) ?_
                                      try go_wp2
                                      (try simp only [← hl6_3])
                                      go_roundg k3
                                      case measure => have := HJ2.out; have := HK2.out; have := HK3.out; omega
                                      case rel => exact ⟨(y150), (wrap64 (x8_3 + 1)), (by first | rfl | (simp; done) | (simp [*]; done)), H', ⟨by have := HJ2.out; have := HK2.out; have := HK3.out; omega⟩, ⟨by (try simp only [hl6_2]); (try simp only [hl6_3]); (with_reducible repeat (first | apply Kd.S_alloc | apply Kd.S_drewN | apply Kd.S_drew)); exact HQ29.out⟩, ⟨by repeat (first | (with_reducible first | exact HB.out | apply below_alloc | apply pw_below_drewN | apply below_drew1 | refine below_set ?_ GB27.out) | exact HB.out)⟩⟩
                                    · rw [if_neg c26] at H
                                      exact absurd H (by simp)
                                  · rw [if_neg c25] at H
                                    exact absurd H (by simp)
                                · rw [if_neg c23] at H
                                  exact absurd H (by simp)
                              · rw [if_neg c22] at H
                                exact absurd H (by simp)
                            · rw [if_neg c20] at H
                              exact absurd H (by simp)
                          · rw [if_neg c19] at H
                            exact absurd H (by simp)
                        · rw [if_neg c18] at H
                          have c18b0 : decide (x8_3 < a1) = false := decide_eq_false c18
                          (try simp only [hl6_2] at c18b0)
                          (try simp only [hl6_3] at c18b0)
                          clear c18
                          have H' := Aside0.mk H
                          clear H
                          go_wp2
                          (try simp only [← hl6_2, ← hl6_3])
                          go_roundg k3
                          case measure => have := HJ2.out; have := HK2.out; have := HK3.out; omega
                          case rel => exact ⟨(x6_3), (wrap64 (x28_2 + 1)), (by first | rfl | (simp; done) | (simp [*]; done)), H', ⟨by have := HJ2.out; have := HK2.out; have := HK3.out; omega⟩, ⟨by (try simp only [hl6_2]); (try simp only [hl6_3]); (with_reducible repeat (first | apply Kd.S_alloc | apply Kd.S_drewN | apply Kd.S_drew)); exact HO_6.out⟩, ⟨by repeat (first | (with_reducible first | exact HB.out | apply below_alloc | apply pw_below_drewN | apply below_drew1) | exact HB.out)⟩⟩
                  · rw [if_neg c14] at H
                    exact absurd H (by simp)
                · rw [if_neg c13] at H
                  exact absurd H (by simp)
              · rw [if_neg c12] at H
                exact absurd H (by simp)
            · rw [if_neg c11] at H
              have c11b0 : decide (x28_2 < (t137.length : Int)) = false := decide_eq_false c11
              (try simp only [hl6_2] at c11b0)
              clear c11
              simp only [Option.some.injEq, Prod.mk.injEq] at H
              obtain ⟨rfl, rfl⟩ := H
              go_wp2
              go_ret2
              exact ⟨_, by first | rfl | (simp [errW_none, errW_some] <;> rfl) | (simp [*, errW_none, errW_some] <;> rfl), by (with_reducible repeat (first | apply Kd.S_alloc | apply Kd.S_drewN | apply Kd.S_drew)); exact HO_6.out, by repeat (first | (with_reducible first | exact HB.out | apply below_alloc | apply pw_below_drewN | apply below_drew1) | exact HB.out)⟩

end Go.Proofs.Ytidogckochpbgaa.A
