-- Printed for this claim by mp.py, a program of its prover, through the kit's print. Lean checks it.
import Derived.Test.YtidogckochpbgaaAx0
import Derived.Test.YtidogckochpbgaaAx1
import Derived.Test.YtidogckochpbgaaAx2
namespace Go.Proofs.Ytidogckochpbgaa.A
open Go.RowKit Go.Proofs.YtidogckochpbgaaW.PrintWords Go.Proofs.YtidogckochpbgaaW.PrintLast Go.Proofs.YtidogckochpbgaaW.PrintMore
attribute [local go_sem] max2_int min2_int max_two min_two max_three min_three max_four min_four   -- for this text's walks alone
set_option linter.unusedVariables false
set_option linter.unusedSimpArgs false

/-! ### matrix_Cauchy: function 15 -/
mutual
def matrix_Cauchy.j0 : Nat → Int → Int → Bool → Option ((List (List Int)) × Int)
  | 0, _, _, _ => none
  | k + 1, x0, x1, x29 => if x29 = true then (some (([] : List (List Int)), 100)) else ((gf8_New.f).bind fun _ => ((matrix_blank.f k x0 x1).bind fun t153 => (matrix_Cauchy.l0 k x1 t153 (t153.length : Int) 0)))
def matrix_Cauchy.l0 : Nat → Int → List (List Int) → Int → Int → Option ((List (List Int)) × Int)
  | 0, _, _, _, _ => none
  | k + 1, x1, x7, x35, x36 => if x36 < x35 then (if 0 ≤ x36 then (if x36 < (x7.length : Int) then (matrix_Cauchy.l1 k x1 x7 x36 x35 x36 ((rd_L1 x7 x36).length : Int) 0) else (none)) else (none)) else (some (x7, 0))
def matrix_Cauchy.l1 : Nat → Int → List (List Int) → Int → Int → Int → Int → Int → Option ((List (List Int)) × Int)
  | 0, _, _, _, _, _, _, _ => none
  | k + 1, x1, x7, x8, x35, x36, x43, x44 => if x44 < x43 then (if 0 ≤ x8 then (if x8 < (x7.length : Int) then ((gf8_Tables_Inv.f (Go.bits .xor .u8 ((wrap64 (x1 + x8)) % 256) ((x44) % 256))).bind fun bt158 => (if 0 ≤ x44 then (if x44 < ((rd_L1 x7 x8).length : Int) then (matrix_Cauchy.l1 k x1 (x7.set (x8 : Int).toNat ((rd_L1 x7 x8).set (x44 : Int).toNat bt158.1)) x8 x35 x36 x43 (wrap64 (x44 + 1))) else (none)) else (none))) else (none)) else (none)) else (matrix_Cauchy.l0 k x1 x7 x35 (wrap64 (x36 + 1)))
end
def matrix_Cauchy.f (k : Nat) (a0 : Int) (a1 : Int) : Option ((List (List Int)) × Int) := if a0 < 1 then (matrix_Cauchy.j0 k a0 a1 true) else (if a0 > 256 then (matrix_Cauchy.j0 k a0 a1 true) else (if a1 < 1 then (matrix_Cauchy.j0 k a0 a1 true) else (if a1 > 256 then (matrix_Cauchy.j0 k a0 a1 true) else (matrix_Cauchy.j0 k a0 a1 (decide ((wrap64 (a0 + a1)) > 256))))))
theorem matrix_Cauchy.mono_l : ∀ k, (∀ y0 y1 y2, LeO (matrix_Cauchy.j0 k y0 y1 y2) (matrix_Cauchy.j0 (k + 1) y0 y1 y2)) ∧ (∀ y0 y1 y2 y3, LeO (matrix_Cauchy.l0 k y0 y1 y2 y3) (matrix_Cauchy.l0 (k + 1) y0 y1 y2 y3)) ∧ (∀ y0 y1 y2 y3 y4 y5 y6, LeO (matrix_Cauchy.l1 k y0 y1 y2 y3 y4 y5 y6) (matrix_Cauchy.l1 (k + 1) y0 y1 y2 y3 y4 y5 y6))
  | 0 => ⟨fun _ _ _ r h => by simp [matrix_Cauchy.j0] at h, fun _ _ _ _ r h => by simp [matrix_Cauchy.l0] at h, fun _ _ _ _ _ _ _ r h => by simp [matrix_Cauchy.l1] at h⟩
  | k + 1 => by
    obtain ⟨ih0, ih1, ih2⟩ := matrix_Cauchy.mono_l k
    refine ⟨?_, ?_, ?_⟩
    · intro y0 y1 y2
      unfold matrix_Cauchy.j0
      repeat' first
      | (with_reducible exact ih0 _ _ _)
      | (with_reducible exact ih1 _ _ _ _)
      | (with_reducible exact ih2 _ _ _ _ _ _ _)
      | (with_reducible exact matrix_blank.mono _ _ _)
      | (with_reducible exact LeO.refl _)
      | (with_reducible exact LeO.none _)
      | (with_reducible refine LeO.ite ?_ ?_)
      | (with_reducible refine LeO.bind ?_ (fun _ => ?_))
      | exact ih0 _ _ _
      | exact ih1 _ _ _ _
      | exact ih2 _ _ _ _ _ _ _
      | exact matrix_blank.mono _ _ _
      | exact LeO.none _
      | refine LeO.ite ?_ ?_
      | refine LeO.bind ?_ (fun _ => ?_)
    · intro y0 y1 y2 y3
      unfold matrix_Cauchy.l0
      repeat' first
      | (with_reducible exact ih0 _ _ _)
      | (with_reducible exact ih1 _ _ _ _)
      | (with_reducible exact ih2 _ _ _ _ _ _ _)
      | (with_reducible exact matrix_blank.mono _ _ _)
      | (with_reducible exact LeO.refl _)
      | (with_reducible exact LeO.none _)
      | (with_reducible refine LeO.ite ?_ ?_)
      | (with_reducible refine LeO.bind ?_ (fun _ => ?_))
      | exact ih0 _ _ _
      | exact ih1 _ _ _ _
      | exact ih2 _ _ _ _ _ _ _
      | exact matrix_blank.mono _ _ _
      | exact LeO.none _
      | refine LeO.ite ?_ ?_
      | refine LeO.bind ?_ (fun _ => ?_)
    · intro y0 y1 y2 y3 y4 y5 y6
      unfold matrix_Cauchy.l1
      repeat' first
      | (with_reducible exact ih0 _ _ _)
      | (with_reducible exact ih1 _ _ _ _)
      | (with_reducible exact ih2 _ _ _ _ _ _ _)
      | (with_reducible exact matrix_blank.mono _ _ _)
      | (with_reducible exact LeO.refl _)
      | (with_reducible exact LeO.none _)
      | (with_reducible refine LeO.ite ?_ ?_)
      | (with_reducible refine LeO.bind ?_ (fun _ => ?_))
      | exact ih0 _ _ _
      | exact ih1 _ _ _ _
      | exact ih2 _ _ _ _ _ _ _
      | exact matrix_blank.mono _ _ _
      | exact LeO.none _
      | refine LeO.ite ?_ ?_
      | refine LeO.bind ?_ (fun _ => ?_)
theorem matrix_Cauchy.mono : ∀ a0 a1 k, LeO (matrix_Cauchy.f k a0 a1) (matrix_Cauchy.f (k + 1) a0 a1) := by
  intro a0 a1 k
  obtain ⟨ih0, ih1, ih2⟩ := matrix_Cauchy.mono_l k
  unfold matrix_Cauchy.f
  repeat' first
      | (with_reducible exact ih0 _ _ _)
      | (with_reducible exact ih1 _ _ _ _)
      | (with_reducible exact ih2 _ _ _ _ _ _ _)
      | (with_reducible exact matrix_blank.mono _ _ _)
      | (with_reducible exact LeO.refl _)
      | (with_reducible exact LeO.none _)
      | (with_reducible refine LeO.ite ?_ ?_)
      | (with_reducible refine LeO.bind ?_ (fun _ => ?_))
      | exact ih0 _ _ _
      | exact ih1 _ _ _ _
      | exact ih2 _ _ _ _ _ _ _
      | exact matrix_blank.mono _ _ _
      | exact LeO.none _
      | refine LeO.ite ?_ ?_
      | refine LeO.bind ?_ (fun _ => ?_)
def matrix_Cauchy.T11 : Bool × List (List Nat × List Nat) := (true, [([], []), ([], []), ([0, 1], [0, 1]), ([2], [2]), ([], []), ([], []), ([], []), ([], []), ([6, 7], [6, 7]), ([8], [8]), ([], []), ([10], [10]), ([9, 11], [9, 11]), ([5, 12], [5, 12]), ([13], [13]), ([14], [14]), ([14], [14]), ([3, 4, 0, 1, 2, 3, 4, 5, 6, 7, 8, 9, 10, 11, 12, 13, 14, 15], [3, 4]), ([17, 15, 13, 0, 1, 2, 3, 4, 5, 6, 7, 8, 9, 10, 11, 12, 13, 14, 15], [15, 17])])
def matrix_Cauchy.B11 : List Nat := [0, 0, 3, 7, 0, 0, 0, 0, 192, 448, 0, 1024, 4032, 8160, 16352, 32736, 32736, 65535, 196607]
theorem matrix_Cauchy.tab11 : rtab .any (opsOf Try.f15 11) = matrix_Cauchy.T11 := by kernel_rfl
theorem matrix_Cauchy.bits11 : waitsOk matrix_Cauchy.T11.2 matrix_Cauchy.B11 = true := by kernel_rfl
set_option maxHeartbeats 8000000 in
set_option maxRecDepth 100000 in
theorem matrix_Cauchy.calls (k : Nat) (a0 : Int) (a1 : Int) (r1 : List (List Int)) (r2 : Int) (w : World) (h : matrix_Cauchy.f k a0 a1 = some (r1, r2)) :
    Calls Try.prog 15 #[.int .i64 a0, .int .i64 a1] w fun e w' => ∃ v0_ : Value, e = .returned (.tuple #[v0_, .int .i64 r2]) ∧ Kd.S (Kd.slice 5 (Kd.int .u8)) 31 w' w.heap.size (fun _ => True) v0_ r1 ∧ Below w.heap.size w w' := by
  have HB := Aside0.mk (Below.refl w.heap.size w)
  have H : (if a0 < 1 then (matrix_Cauchy.j0 k a0 a1 true) else (if a0 > 256 then (matrix_Cauchy.j0 k a0 a1 true) else (if a1 < 1 then (matrix_Cauchy.j0 k a0 a1 true) else (if a1 > 256 then (matrix_Cauchy.j0 k a0 a1 true) else (matrix_Cauchy.j0 k a0 a1 (decide ((wrap64 (a0 + a1)) > 256))))))) = some (r1, r2) := h
  clear h
  have HC3 := Aside0.mk H
  clear H
  go_enter Try.func15, Try.ntmps15
  go_upto_region 1 with (fail)
  go_cut [29] (fun v29 wc => ∃ (kq : Nat) (x29_2 : Bool), v29 = .bool x29_2 ∧ Aside0 (matrix_Cauchy.j0 kq a0 a1 x29_2 = some (r1, r2)) ∧ Aside0 (kq ≤ k) ∧ Aside0 (Below w.heap.size w wc))
  case first =>
    have H := HC3.out
    clear HC3
    by_cases c4 : a0 < 1
    · rw [if_pos c4] at H
      have c4b0 : decide (a0 < 1) = true := decide_eq_true c4
      clear c4
      (first | rw [c4b0] | (simp only [i64_w, i32_w]; rw [c4b0]) | skip)
      have H' := Aside0.mk H
      clear H
      go_wp2
      go_meet
      case rel => exact ⟨_, (true), (by first | rfl | (simp; done) | (simp [*]; done)), H', ⟨by first | omega | exact Nat.le_refl _⟩, ⟨by repeat (first | (with_reducible first | exact HB.out | apply below_alloc | apply pw_below_drewN | apply below_drew1) | exact HB.out)⟩⟩
    · rw [if_neg c4] at H
      have c4b0 : decide (a0 < 1) = false := decide_eq_false c4
      clear c4
      (first | rw [c4b0] | (simp only [i64_w, i32_w]; rw [c4b0]) | skip)
      by_cases c5 : a0 > 256
      · rw [if_pos c5] at H
        have c5b0 : decide (256 < a0) = true := decide_eq_true c5
        clear c5
        have H' := Aside0.mk H
        clear H
        go_wp2
        go_meet
        case rel => exact ⟨_, (true), (by first | rfl | (simp; done) | (simp [*]; done)), H', ⟨by first | omega | exact Nat.le_refl _⟩, ⟨by repeat (first | (with_reducible first | exact HB.out | apply below_alloc | apply pw_below_drewN | apply below_drew1) | exact HB.out)⟩⟩
      · rw [if_neg c5] at H
        have c5b0 : decide (256 < a0) = false := decide_eq_false c5
        clear c5
        by_cases c6 : a1 < 1
        · rw [if_pos c6] at H
          have c6b0 : decide (a1 < 1) = true := decide_eq_true c6
          clear c6
          have H' := Aside0.mk H
          clear H
          go_wp2
          go_meet
          case rel => exact ⟨_, (true), (by first | rfl | (simp; done) | (simp [*]; done)), H', ⟨by first | omega | exact Nat.le_refl _⟩, ⟨by repeat (first | (with_reducible first | exact HB.out | apply below_alloc | apply pw_below_drewN | apply below_drew1) | exact HB.out)⟩⟩
        · rw [if_neg c6] at H
          have c6b0 : decide (a1 < 1) = false := decide_eq_false c6
          clear c6
          by_cases c7 : a1 > 256
          · rw [if_pos c7] at H
            have c7b0 : decide (256 < a1) = true := decide_eq_true c7
            clear c7
            have H' := Aside0.mk H
            clear H
            go_wp2
            go_meet
            case rel => exact ⟨_, (true), (by first | rfl | (simp; done) | (simp [*]; done)), H', ⟨by first | omega | exact Nat.le_refl _⟩, ⟨by repeat (first | (with_reducible first | exact HB.out | apply below_alloc | apply pw_below_drewN | apply below_drew1) | exact HB.out)⟩⟩
          · rw [if_neg c7] at H
            have c7b0 : decide (256 < a1) = false := decide_eq_false c7
            clear c7
            have H' := Aside0.mk H
            clear H
            go_wp2
            go_meet
            case rel => exact ⟨_, (decide ((wrap64 (a0 + a1)) > 256)), (by first | rfl | (simp; done) | (simp [*]; done)), H', ⟨by first | omega | exact Nat.le_refl _⟩, ⟨by repeat (first | (with_reducible first | exact HB.out | apply below_alloc | apply pw_below_drewN | apply below_drew1) | exact HB.out)⟩⟩
  case rest =>
    clear HC3
    try clear c1
    try clear p2
    try clear c4
    try clear c4b0
    try clear c5
    try clear c5b0
    try clear c6
    try clear c6b0
    try clear p6
    try clear c7
    try clear c7b0
    obtain ⟨kq, x29_2, rfl, HA, HJ2, HB⟩ := hcut
    cases kq with
    | zero => exact absurd HA.out (by simp [matrix_Cauchy.j0])
    | succ kj2 =>
      have H := HA.out
      clear HA
      simp only [matrix_Cauchy.j0] at H
      by_cases c8 : x29_2 = true
      · subst c8
        have H1 : (some (([] : List (List Int)), 100)) = some (r1, r2) := by rw [if_pos rfl] at H; exact H
        clear H
        have H := H1
        clear H1
        simp only [Option.some.injEq, Prod.mk.injEq] at H
        obtain ⟨rfl, rfl⟩ := H
        go_wp2
        go_ret2
        exact ⟨_, by first | rfl | (simp [errW_none, errW_some] <;> rfl) | (simp [*, errW_none, errW_some] <;> rfl), by first | exact Kd.S_nil _ _ _ _ _ | exact Kd.N_nil _ _ _ _ _ | exact Kd.V_nil _ _ _ _ _ | exact Kd.Q_nil _ _ _ _ _ | exact Kd.R_nil _ _ _ _ _, by repeat (first | (with_reducible first | exact HB.out | apply below_alloc | apply pw_below_drewN | apply below_drew1) | exact HB.out)⟩
      · replace c8 := Bool.eq_false_iff.mpr c8
        subst c8
        have H1 : ((gf8_New.f).bind fun _ => ((matrix_blank.f kj2 a0 a1).bind fun t153 => (matrix_Cauchy.l0 kj2 a1 t153 (t153.length : Int) 0))) = some (r1, r2) := by rw [if_neg (show ¬ (false = true) by decide)] at H; exact H
        clear H
        have H := H1
        clear H1
        replace H := Option.bind_eq_some_iff.mp H
        obtain ⟨_, A90, H⟩ := H
        replace H : ((matrix_blank.f kj2 a0 a1).bind fun t153 => (matrix_Cauchy.l0 kj2 a1 t153 (t153.length : Int) 0)) = some (r1, r2) := H
        have A9 := Aside0.mk A90
        clear A90
        replace H := Option.bind_eq_some_iff.mp H
        obtain ⟨t153, A100, H⟩ := H
        replace H : (matrix_Cauchy.l0 kj2 a1 t153 (t153.length : Int) 0) = some (r1, r2) := H
        have A10 := Aside0.mk A100
        clear A100
        have H' := Aside0.mk H
        clear H
        go_wp2_with (first | ((with_reducible refine gate_callee (f := 44) rfl ?_); refine goesL_ (some 30) rfl rfl Try.func44 (by kernel_rfl) rfl #[] rfl (by (try simp only [List.map_toArray, List.map_cons, List.map_nil]); first | done | rfl | (simp only [tb_wrap8]; done) | (simp only [tb_wrap8]; rfl) | (simp only [List.length_drop, List.length_take]; rfl)) ?_; (with_reducible refine (gf8_New.calls   w _ ?side1 A9.out).mono ?_); (case side1 => repeat (first | (with_reducible first | exact HB.out | apply below_alloc | apply pw_below_drewN | apply below_drew1) | exact HB.out)); rintro e w11 ⟨g152, rfl, hi, hb, hb2⟩; refine ⟨_, rfl, ?_⟩; have n0_ := Aside0.mk (hb); have n1_ := Aside0.mk (hi); clear HB; have HB := n0_; have HI152 := n1_; clear n0_ n1_; (try clear hb); (try clear hb2); (try clear hk); (try clear hi)) | ((with_reducible refine gate_callee (f := 43) rfl ?_); refine goesL_ (some 33) rfl rfl Try.func43 (by kernel_rfl) rfl #[.int .i64 a0, .int .i64 a1] rfl (by (try simp only [List.map_toArray, List.map_cons, List.map_nil]); first | done | rfl | (simp only [tb_wrap8]; done) | (simp only [tb_wrap8]; rfl) | (simp only [List.length_drop, List.length_take]; rfl)) ?_; (with_reducible refine (matrix_blank.calls kj2 a0 a1 t153 _ A10.out).mono ?_); rintro e w12 ⟨v154, rfl, ho0, hb⟩; refine ⟨_, rfl, ?_⟩; have n0_ := Aside0.mk (Kd.S_lower ho0 (below_size (by repeat (first | (with_reducible first | exact HB.out | apply below_alloc | apply pw_below_drewN | apply below_drew1 | refine below_set ?_ (IsS76.ge HI152.out)) | exact HB.out)))); have n1_ := Aside0.mk (IsS76.below (by repeat (first | (with_reducible first | exact HI152.out | apply IsS76.alloc | apply IsS76.drewN | apply IsS76.drew) | exact HI152.out)) hb); have n2_ := Aside0.mk (below_step (by repeat (first | (with_reducible first | exact HB.out | apply below_alloc | apply pw_below_drewN | apply below_drew1 | refine below_set ?_ (IsS76.ge HI152.out)) | exact HB.out)) hb); clear HI152; clear HB; have HO155 := n0_; have HI152 := n1_; have HB := n2_; clear n0_ n1_ n2_; (try clear hb); (try clear hb2); (try clear hk); (try clear hi); (try clear ho0); obtain ⟨Ao13, co13, eo13⟩ := Kd.S_slice HO155.out; subst eo13))
        go_loopg [36] kj2 (fun kq v36 w' => ∃ (x7_2 : List (List Int)) (x36_2 : Int), v36 = .int .i64 x36_2 ∧ Aside0 (matrix_Cauchy.l0 kq a1 x7_2 (t153.length : Int) x36_2 = some (r1, r2)) ∧ Aside0 (kq ≤ kj2) ∧ Aside0 (Kd.S (Kd.slice 5 (Kd.int .u8)) 31 w' w.heap.size (fun _ => True) (.slice Ao13 t153.length co13) x7_2) ∧ Aside0 (IsS76 w w' g152 ) ∧ Aside0 (Below w.heap.size w w'))
        case atStart => exact ⟨(t153), (0), (by first | rfl | (simp; done) | (simp [*]; done)), H', ⟨Nat.le_refl _⟩, ⟨by (with_reducible repeat (first | apply Kd.S_alloc | apply Kd.S_drewN | apply Kd.S_drew)); exact HO155.out⟩, ⟨by repeat (first | (with_reducible first | exact HI152.out | apply IsS76.alloc | apply IsS76.drewN | apply IsS76.drew) | exact HI152.out)⟩, ⟨by repeat (first | (with_reducible first | exact HB.out | apply below_alloc | apply pw_below_drewN | apply below_drew1 | refine below_set ?_ (IsS76.ge HI152.out)) | exact HB.out)⟩⟩
        case round =>
          clear H'
          try clear c1
          try clear p2
          try clear c4
          try clear c4b0
          try clear c5
          try clear c5b0
          try clear c6
          try clear c6b0
          try clear p6
          try clear c7
          try clear c7b0
          try clear c8
          try clear p8
          try clear p2
          try clear p6
          obtain ⟨x7_2, x36_2, rfl, HA, HK2, HO_7, HI152, HB⟩ := hrel
          have hl7_2 := (Kd.S_reads' HO_7.out).1
          rw [hl7_2] at HO_7
          (try simp only [hl7_2])
          cases gk with
          | zero => exact absurd HA.out (by simp [matrix_Cauchy.l0])
          | succ k2 =>
            have H := HA.out
            clear HA
            simp only [matrix_Cauchy.l0] at H
            by_cases c14 : x36_2 < (t153.length : Int)
            · rw [if_pos c14] at H
              have c14b0 : decide (x36_2 < (t153.length : Int)) = true := decide_eq_true c14
              (try simp only [hl7_2] at c14b0)
              clear c14
              by_cases c15 : 0 ≤ x36_2
              · rw [if_pos c15] at H
                have c15b0 : decide (0 ≤ x36_2) = true := decide_eq_true c15
                (try simp only [hl7_2] at c15b0)
                clear c15
                by_cases c16 : x36_2 < (x7_2.length : Int)
                · rw [if_pos c16] at H
                  have c16b0 : decide (x36_2 < (x7_2.length : Int)) = true := decide_eq_true c16
                  (try simp only [hl7_2] at c16b0)
                  clear c16
                  have H' := Aside0.mk H
                  clear H
                  have p156 : 0 ≤ (x36_2 : Int) := of_decide_eq_true (by first | (with_reducible assumption) | assumption)
                  have q156 : x36_2 < (x7_2.length : Int) := of_decide_eq_true (by first | (with_reducible assumption) | assumption)
                  obtain ⟨ad156, A156_0, c156_0, e156, hx156_0, hl156_0, hi156_0⟩ := at_L1 (Kd.S_reads' HO_7.out).2.2 x36_2 p156 q156
                  cases e156
                  obtain ⟨ce156, hce156, hMe156, hcc156⟩ := Kd.S_get HO_7.out [] x36_2 p156 (by first | exact q156 | exact of_decide_eq_true (by first | (with_reducible assumption) | assumption) | (have e_ := (Kd.S_reads' HO_7.out).1; omega))
                  obtain ⟨ve156_0, rfl, ge156_0⟩ := hMe156
                  have hv156_0 := hcc156 0 _ rfl
                  rw [Nat.add_zero, show ((Kd.slice 5 (Kd.int .u8))).sz = 1 from rfl, Nat.mul_one] at hv156_0
                  replace hv156_0 := Option.some.inj (hv156_0.symm.trans hx156_0)
                  rw [hv156_0] at ge156_0
                  have HL156_0 := Aside0.mk (show Kd.R (Kd.int .u8) 5 _ _ _ _ (rd_L1 x7_2 x36_2) from ge156_0)
                  clear hv156_0 ge156_0
                  have HX156_0 := Aside0.mk hx156_0
                  clear hcc156 hce156
                  have HR156_0 := Aside0.mk hi156_0
                  have HC156_0 := Aside0.mk hl156_0
                  clear hi156_0 hl156_0
                  replace p156 := eq_true p156
                  replace q156 := eq_true q156
                  go_wp2
                  go_loopg [44] k2 (fun kq v44 w' => ∃ (x7_3 : List (List Int)) (x44_3 : Int), v44 = .int .i64 x44_3 ∧ Aside0 (matrix_Cauchy.l1 kq a1 x7_3 x36_2 (t153.length : Int) x36_2 ((rd_L1 x7_2 x36_2).length : Int) x44_3 = some (r1, r2)) ∧ Aside0 (kq ≤ k2) ∧ Aside0 (Kd.S (Kd.slice 5 (Kd.int .u8)) 31 w' w.heap.size (fun _ => True) (.slice (some ad156) x7_2.length co13) x7_3) ∧ Aside0 (IsS76 w w' g152 ) ∧ Aside0 (Below w.heap.size w w'))
                  case atStart => exact ⟨(x7_2), (0), (by first | rfl | (simp; done) | (simp [*]; done)), H', ⟨Nat.le_refl _⟩, ⟨by (try simp only [hl7_2]); (with_reducible repeat (first | apply Kd.S_alloc | apply Kd.S_drewN | apply Kd.S_drew)); exact HO_7.out⟩, ⟨by repeat (first | (with_reducible first | exact HI152.out | apply IsS76.alloc | apply IsS76.drewN | apply IsS76.drew) | exact HI152.out)⟩, ⟨by repeat (first | (with_reducible first | exact HB.out | apply below_alloc | apply pw_below_drewN | apply below_drew1 | refine below_set ?_ (IsS76.ge HI152.out)) | exact HB.out)⟩⟩
                  case round =>
                    clear H'
                    try clear c1
                    try clear p1
                    try clear q1
                    try clear hx1
                    try clear p2
                    try clear c4
                    try clear c4b0
                    try clear c5
                    try clear c5b0
                    try clear c6
                    try clear c6b0
                    try clear p6
                    try clear c7
                    try clear c7b0
                    try clear c8
                    try clear p8
                    try clear c14
                    try clear c14b0
                    try clear c15
                    try clear c15b0
                    try clear p15
                    try clear q15
                    try clear hx15
                    try clear c16
                    try clear c16b0
                    try clear hx156_0
                    try clear p156
                    try clear p2
                    try clear p6
                    try clear p8
                    try clear q156
                    obtain ⟨x7_3, x44_3, rfl, HA, HK3, HO_7, HI152, HB⟩ := hrel
                    have hl7_3 := (Kd.S_reads' HO_7.out).1
                    rw [hl7_3] at HO_7
                    (try simp only [hl7_3])
                    cases gk with
                    | zero => exact absurd HA.out (by simp [matrix_Cauchy.l1])
                    | succ k3 =>
                      have H := HA.out
                      clear HA
                      simp only [matrix_Cauchy.l1] at H
                      by_cases c17 : x44_3 < ((rd_L1 x7_2 x36_2).length : Int)
                      · rw [if_pos c17] at H
                        have c17b0 : decide (x44_3 < ((rd_L1 x7_2 x36_2).length : Int)) = true := decide_eq_true c17
                        (try simp only [hl7_2] at c17b0)
                        (try simp only [hl7_3] at c17b0)
                        clear c17
                        by_cases c18 : 0 ≤ x36_2
                        · rw [if_pos c18] at H
                          have c18b0 : decide (0 ≤ x36_2) = true := decide_eq_true c18
                          (try simp only [hl7_2] at c18b0)
                          (try simp only [hl7_3] at c18b0)
                          clear c18
                          by_cases c19 : x36_2 < (x7_3.length : Int)
                          · rw [if_pos c19] at H
                            have c19b0 : decide (x36_2 < (x7_3.length : Int)) = true := decide_eq_true c19
                            (try simp only [hl7_2] at c19b0)
                            (try simp only [hl7_3] at c19b0)
                            clear c19
                            replace H := Option.bind_eq_some_iff.mp H
                            obtain ⟨⟨t158, t159⟩, A200, H⟩ := H
                            replace H : (if 0 ≤ x44_3 then (if x44_3 < ((rd_L1 x7_3 x36_2).length : Int) then (matrix_Cauchy.l1 k3 a1 (x7_3.set (x36_2 : Int).toNat ((rd_L1 x7_3 x36_2).set (x44_3 : Int).toNat t158)) x36_2 (t153.length : Int) x36_2 ((rd_L1 x7_2 x36_2).length : Int) (wrap64 (x44_3 + 1))) else (none)) else (none)) = some (r1, r2) := H
                            have A20 := Aside0.mk A200
                            clear A200
                            by_cases c21 : 0 ≤ x44_3
                            · rw [if_pos c21] at H
                              have c21b0 : decide (0 ≤ x44_3) = true := decide_eq_true c21
                              (try simp only [hl7_2] at c21b0)
                              (try simp only [hl7_3] at c21b0)
                              clear c21
                              by_cases c22 : x44_3 < ((rd_L1 x7_3 x36_2).length : Int)
                              · rw [if_pos c22] at H
                                have c22b0 : decide (x44_3 < ((rd_L1 x7_3 x36_2).length : Int)) = true := decide_eq_true c22
                                (try simp only [hl7_2] at c22b0)
                                (try simp only [hl7_3] at c22b0)
                                clear c22
                                obtain ⟨y160, hy160⟩ : ∃ y_ : List Int, y_ = ((rd_L1 x7_3 x36_2).set (x44_3 : Int).toNat t158) := ⟨_, rfl⟩
                                replace H : (matrix_Cauchy.l1 k3 a1 (x7_3.set (x36_2 : Int).toNat y160) x36_2 (t153.length : Int) x36_2 ((rd_L1 x7_2 x36_2).length : Int) (wrap64 (x44_3 + 1))) = some (r1, r2) := by first | (rw [hy160]; with_reducible exact H) | (have H2_ := (Option.bind_some _ _).symm.trans H; rw [hy160]; with_reducible exact H2_) | (have H2_ := (Option.bind_some _ _).symm.trans H; with_reducible exact H2_) | with_reducible exact H | (rw [hy160]; exact H) | exact H
                                have Ny160 := Aside0.mk hy160
                                clear hy160
                                obtain ⟨y162, hy162⟩ : ∃ y_ : List (List Int), y_ = (x7_3.set (x36_2 : Int).toNat y160) := ⟨_, rfl⟩
                                replace H : (matrix_Cauchy.l1 k3 a1 y162 x36_2 (t153.length : Int) x36_2 ((rd_L1 x7_2 x36_2).length : Int) (wrap64 (x44_3 + 1))) = some (r1, r2) := by first | (rw [hy162]; with_reducible exact H) | (have H2_ := (Option.bind_some _ _).symm.trans H; rw [hy162]; with_reducible exact H2_) | (have H2_ := (Option.bind_some _ _).symm.trans H; with_reducible exact H2_) | with_reducible exact H | (rw [hy162]; exact H) | exact H
                                have Ny162 := Aside0.mk hy162
                                clear hy162
                                have H' := Aside0.mk H
                                clear H
                                try go_wp2
                                have n0_ := Aside0.mk (Kd.S_drew HO_7.out)
                                have n1_ := Aside0.mk (IsS76.drew HI152.out)
                                have n2_ := Aside0.mk (below_drew1 HB.out)
                                clear HO_7
                                clear HI152
                                clear HB
                                have HO_7 := n0_
                                have HI152 := n1_
                                have HB := n2_
                                clear n0_ n1_ n2_
                                have p157 : 0 ≤ (x36_2 : Int) := of_decide_eq_true (by first | (with_reducible assumption) | assumption)
                                have q157 : x36_2 < (x7_3.length : Int) := of_decide_eq_true (by first | (with_reducible assumption) | assumption)
                                obtain ⟨ad157, A157_0, c157_0, e157, hx157_0, hl157_0, hi157_0⟩ := at_L1 (Kd.S_reads' HO_7.out).2.2 x36_2 p157 q157
                                obtain rfl : ad156 = ad157 := (by injection e157)
                                obtain ⟨ce157, hce157, hMe157, hcc157⟩ := Kd.S_get HO_7.out [] x36_2 p157 (by first | exact q157 | exact of_decide_eq_true (by first | (with_reducible assumption) | assumption) | (have e_ := (Kd.S_reads' HO_7.out).1; omega))
                                obtain ⟨ve157_0, rfl, ge157_0⟩ := hMe157
                                have hv157_0 := hcc157 0 _ rfl
                                rw [Nat.add_zero, show ((Kd.slice 5 (Kd.int .u8))).sz = 1 from rfl, Nat.mul_one] at hv157_0
                                replace hv157_0 := Option.some.inj (hv157_0.symm.trans hx157_0)
                                rw [hv157_0] at ge157_0
                                have HL157_0 := Aside0.mk (show Kd.R (Kd.int .u8) 5 _ _ _ _ (rd_L1 x7_3 x36_2) from ge157_0)
                                clear hv157_0 ge157_0
                                have HX157_0 := Aside0.mk hx157_0
                                clear hcc157 hce157
                                have HR157_0 := Aside0.mk hi157_0
                                have HC157_0 := Aside0.mk hl157_0
                                clear hi157_0 hl157_0
                                replace p157 := eq_true p157
                                replace q157 := eq_true q157
                                refine start_ (n := 19) (S := fun w' => w'.cell? (ad156.add (x36_2).toNat) = some (.slice A157_0 (rd_L1 x7_3 x36_2).length c157_0)) (ds := [18]) #[false, false, false, false, false, false, false, false, false, false, false, false, false, false, false, false, false, false, false] (by kernel_rfl) rfl rfl (hx157_0) (fun hHeld => ?_); refine with_tabW matrix_Cauchy.tab11 matrix_Cauchy.bits11 (fun HT_ HW_ => ?_)
                                generalize wr.drew = w24 at HO_7 HI152 HB HL157_0 HR157_0 HX157_0 hx157_0 hHeld ⊢
                                refine pure_ (i := 0) (N := some 48) (v := ?_) (a' := ?_) #[true, false, false, false, false, false, false, false, false, false, false, false, false, false, false, false, false, false, false] rfl rfl (any_of HT_.out (by kernel_rfl)) (fun _ _ _ h => h) (Or.inl ⟨by rfl, ?_⟩) ?_ ?_
                                rotate_left
                                · intro w'
                                  go_simp
                                  with_reducible rfl
                                rotate_left
                                · simp only [Act.put, List.setIfInBounds_toArray, List.set_cons_zero, List.set_cons_succ, i64_w, i32_w]
                                  rfl
                                refine pure_ (i := 1) (N := some 49) (v := ?_) (a' := ?_) #[true, true, false, false, false, false, false, false, false, false, false, false, false, false, false, false, false, false, false] rfl rfl (any_of HT_.out (by kernel_rfl)) (fun _ _ _ h => h) (Or.inl ⟨by rfl, ?_⟩) ?_ ?_
                                rotate_left
                                · intro w'
                                  go_simp
                                  with_reducible rfl
                                rotate_left
                                · simp only [Act.put, List.setIfInBounds_toArray, List.set_cons_zero, List.set_cons_succ, i64_w, i32_w]
                                  rfl
                                refine pure_ (i := 2) (N := some 50) (v := ?_) (a' := ?_) #[true, true, true, false, false, false, false, false, false, false, false, false, false, false, false, false, false, false, false] rfl rfl (any_of HT_.out (by kernel_rfl)) (fun _ _ _ h => h) (Or.inl ⟨by rfl, ?_⟩) ?_ ?_
                                rotate_left
                                · intro w'
                                  go_simp
                                  with_reducible rfl
                                rotate_left
                                · simp only [Act.put, List.setIfInBounds_toArray, List.set_cons_zero, List.set_cons_succ, i64_w, i32_w]
                                  rfl
                                refine pure_ (i := 4) (N := some 52) (v := ?_) (a' := ?_) #[true, true, true, false, true, false, false, false, false, false, false, false, false, false, false, false, false, false, false] rfl rfl (any_of HT_.out (by kernel_rfl)) (fun _ _ _ h => h) (Or.inl ⟨by rfl, ?_⟩) ?_ ?_
                                rotate_left
                                · intro w'
                                  go_simp
                                  with_reducible rfl
                                rotate_left
                                · simp only [Act.put, List.setIfInBounds_toArray, List.set_cons_zero, List.set_cons_succ, i64_w, i32_w]
                                  rfl
                                refine pure_ (i := 5) (N := some 53) (v := ?_) (a' := ?_) #[true, true, true, false, true, true, false, false, false, false, false, false, false, false, false, false, false, false, false] rfl rfl (any_of HT_.out (by kernel_rfl)) (fun _ _ _ h => h) (Or.inl ⟨by rfl, ?_⟩) ?_ ?_
                                rotate_left
                                · intro w'
                                  go_simp
                                  with_reducible rfl
                                rotate_left
                                · simp only [Act.put, List.setIfInBounds_toArray, List.set_cons_zero, List.set_cons_succ, i64_w, i32_w]
                                  rfl
                                refine pure_ (i := 6) (N := some 54) (v := ?_) (a' := ?_) #[true, true, true, false, true, true, true, false, false, false, false, false, false, false, false, false, false, false, false] rfl rfl (any_of HT_.out (by kernel_rfl)) (fun _ _ _ h => h) (Or.inl ⟨by rfl, ?_⟩) ?_ ?_
                                rotate_left
                                · intro w'
                                  go_simp
                                  with_reducible rfl
                                rotate_left
                                · simp only [Act.put, List.setIfInBounds_toArray, List.set_cons_zero, List.set_cons_succ, i64_w, i32_w]
                                  rfl
                                refine pure_ (i := 7) (N := some 55) (v := ?_) (a' := ?_) #[true, true, true, false, true, true, true, true, false, false, false, false, false, false, false, false, false, false, false] rfl rfl (any_of HT_.out (by kernel_rfl)) (fun _ _ _ h => h) (Or.inl ⟨by rfl, ?_⟩) ?_ ?_
                                rotate_left
                                · intro w'
                                  go_simp
                                  with_reducible rfl
                                rotate_left
                                · simp only [Act.put, List.setIfInBounds_toArray, List.set_cons_zero, List.set_cons_succ, i64_w, i32_w]
                                  rfl
                                refine pure_ (i := 8) (N := some 56) (v := ?_) (a' := ?_) #[true, true, true, false, true, true, true, true, true, false, false, false, false, false, false, false, false, false, false] rfl rfl (any_of HT_.out (by kernel_rfl)) (fun _ _ _ h => h) (Or.inl ⟨by rfl, ?_⟩) ?_ ?_
                                rotate_left
                                · intro w'
                                  go_simp
                                  with_reducible rfl
                                rotate_left
                                · simp only [Act.put, List.setIfInBounds_toArray, List.set_cons_zero, List.set_cons_succ, i64_w, i32_w]
                                  rfl
                                refine pure_ (i := 9) (N := some 57) (v := ?_) (a' := ?_) #[true, true, true, false, true, true, true, true, true, true, false, false, false, false, false, false, false, false, false] rfl rfl (any_of HT_.out (by kernel_rfl)) (fun _ _ _ h => h) (Or.inl ⟨by rfl, ?_⟩) ?_ ?_
                                rotate_left
                                · intro w'
                                  go_simp
                                  with_reducible rfl
                                rotate_left
                                · simp only [Act.put, List.setIfInBounds_toArray, List.set_cons_zero, List.set_cons_succ, i64_w, i32_w]
                                  rfl
                                refine pure_ (i := 10) (N := some 58) (v := ?_) (a' := ?_) #[true, true, true, false, true, true, true, true, true, true, true, false, false, false, false, false, false, false, false] rfl rfl (any_of HT_.out (by kernel_rfl)) (fun _ _ _ h => h) (Or.inl ⟨by rfl, ?_⟩) ?_ ?_
                                rotate_left
                                · intro w'
                                  go_simp
                                  with_reducible rfl
                                rotate_left
                                · simp only [Act.put, List.setIfInBounds_toArray, List.set_cons_zero, List.set_cons_succ, i64_w, i32_w]
                                  rfl
                                refine pure_ (i := 11) (N := some 59) (v := ?_) (a' := ?_) #[true, true, true, false, true, true, true, true, true, true, true, true, false, false, false, false, false, false, false] rfl rfl (any_of HT_.out (by kernel_rfl)) (fun _ _ _ h => h) (Or.inl ⟨by rfl, ?_⟩) ?_ ?_
                                rotate_left
                                · intro w'
                                  go_simp
                                  with_reducible rfl
                                rotate_left
                                · simp only [Act.put, List.setIfInBounds_toArray, List.set_cons_zero, List.set_cons_succ, i64_w, i32_w]
                                  rfl
                                refine pure_ (i := 12) (N := some 60) (v := ?_) (a' := ?_) #[true, true, true, false, true, true, true, true, true, true, true, true, true, false, false, false, false, false, false] rfl rfl (any_of HT_.out (by kernel_rfl)) (fun _ _ _ h => h) (Or.inl ⟨by rfl, ?_⟩) ?_ ?_
                                rotate_left
                                · intro w'
                                  go_simp
                                  with_reducible rfl
                                rotate_left
                                · simp only [Act.put, List.setIfInBounds_toArray, List.set_cons_zero, List.set_cons_succ, i64_w, i32_w]
                                  rfl
                                refine take_ (i := 3) (N := some 51) (v := ?_) (a' := ?_) #[true, true, true, true, true, true, true, true, true, true, true, true, true, false, false, false, false, false, false] rfl rfl (take_ofW HT_.out HW_.out (by kernel_rfl)) (fun _ _ _ h => h) (Or.inl ⟨by rfl, ?_⟩) hHeld ?_ ?_
                                rotate_left
                                · intro w' s0
                                  go_simp
                                  with_reducible rfl
                                rotate_left
                                · simp only [Act.put, List.setIfInBounds_toArray, List.set_cons_zero, List.set_cons_succ, i64_w, i32_w]
                                  rfl
                                refine one_ (i := 13) (N := some 61) #[true, true, true, true, true, true, true, true, true, true, true, true, true, true, false, false, false, false, false] rfl rfl (one_of HT_.out (by kernel_rfl)) (by decide) (fun K hK => ?_)
                                refine goes_ Try.func45 (by kernel_rfl) rfl #[.pointer (some ⟨g152, 0, none⟩), .int .u8 (Go.bits .xor .u8 ((wrap64 (a1 + x36_2)) % 256) ((x44_3) % 256))] (by rfl) rfl rfl (by (try simp only [List.map_toArray, List.map_cons, List.map_nil]); first | done | rfl | (simp only [tb_wrap8]; done) | (simp only [tb_wrap8]; rfl) | (simp only [List.length_drop, List.length_take]; rfl)) ?_
                                with_reducible refine (gf8_Tables_Inv.calls g152 (Go.bits .xor .u8 ((wrap64 (a1 + x36_2)) % 256) ((x44_3) % 256)) t158 t159 _ ?side1 A20.out).mono ?_
                                (case side1 => repeat (first | (with_reducible first | exact HI152.out | apply IsS76.alloc | apply IsS76.drewN | apply IsS76.drew) | exact HI152.out))
                                rintro e w' ⟨rfl, ⟨nd, rfl⟩⟩
                                refine ⟨_, rfl, ?_⟩
                                have p23 : 0 ≤ (x44_3 : Int) := of_decide_eq_true (by first | (with_reducible assumption) | assumption)
                                have q23 : (x44_3 : Int) < (((rd_L1 x7_3 x36_2).length : Int) : Int) := of_decide_eq_true (by first | (with_reducible assumption) | assumption)
                                obtain ⟨go23, co23, eo23, gb23, gl23, cl23, HG23⟩ := Kd.R_form HL157_0.out (by omega)
                                (first | cases eo23 | (injection eo23 with ea_ en_ ec_; (first | subst ea_ | (injection ea_ with ea_; subst ea_)); subst ec_; clear en_))
                                have GB23 := Aside0.mk gb23
                                have GG23 := Aside0.mk HG23
                                clear gb23 gl23 HG23
                                obtain ⟨hx23_0, hf23_0⟩ := Kd.R_celln 0 HL157_0.out (x44_3 : Int) p23 q23
                                replace p23 := eq_true p23
                                replace q23 := eq_true q23
                                have hq25 : (x36_2 : Int) < (x7_3.length : Int) := (by have h_ : (x36_2 : Int) < ((x7_3.length : Int) : Int) := of_decide_eq_true (by first | (with_reducible assumption) | assumption); first | exact h_ | (have e_ := (Kd.S_reads' HO_7.out).1; omega) | simpa only [List.length_set, List.length_set] using h_)
                                obtain ⟨oki25, ce25, hcl25, hM25, hcc25, hok25, hbk25⟩ := Kd.S_borrow HO_7.out [] (x36_2 : Int) (of_decide_eq_true (by first | (with_reducible assumption) | assumption)) hq25
                                obtain ⟨ve25_0, rfl, ge25_0⟩ := hM25
                                have hv25 := hcc25 0 _ rfl
                                rw [Nat.add_zero, show ((Kd.slice 5 (Kd.int .u8))).sz = 1 from rfl, Nat.mul_one] at hv25
                                replace hv25 := Option.some.inj (hv25.symm.trans HX157_0.out)
                                subst hv25
                                clear hcc25 hcl25
                                replace ge25_0 := (show Kd.R (Kd.int .u8) 5 _ _ _ _ (rd_L1 x7_3 x36_2) from ge25_0)
                                have HP25 := Kd.R_putg ge25_0 (x44_3 : Int) t158
                                have HN152_go23 := Aside0.mk (show g152 ≠ go23 from by have h_ := IsS76.own_ne HI152.out HL157_0.out (by decide); intro e_; exact h_ (by rw [e_]; rfl))
                                rw [← Ny160.out] at HP25
                                have HS25 := hbk25 HP25.2 (fun k_ e_ => by injection e_ with e_; subst e_; exact ge25_0.1 _ rfl) (x' := y160) (Kd.M_row HP25.1)
                                rw [← Ny162.out] at HS25
                                have HQ25 := Aside0.mk HS25
                                clear HP25 HS25 hbk25 hok25
                                refine hK.out _ _ (hHeld) (fun hHeld => ?_)
                                clear hK K
                                refine norm_ (a' := ?_) ?_ ?_
                                rotate_left
                                · show Act.put _ (some 61) _ = _
                                  simp only [Act.put, List.setIfInBounds_toArray, List.set_cons_zero, List.set_cons_succ, i64_w, i32_w]
                                  rfl
                                refine pure_ (i := 14) (N := some 47) (v := ?_) (a' := ?_) #[true, true, true, true, true, true, true, true, true, true, true, true, true, true, true, false, false, false, false] rfl rfl (any_of HT_.out (by kernel_rfl)) (fun _ _ _ h => h) (Or.inl ⟨by rfl, ?_⟩) ?_ ?_
                                rotate_left
                                · intro w'
                                  go_simp
                                  with_reducible rfl
                                rotate_left
                                · simp only [Act.put, List.setIfInBounds_toArray, List.set_cons_zero, List.set_cons_succ, i64_w, i32_w]
                                  rfl
                                refine pure_ (i := 15) (N := some 62) (v := ?_) (a' := ?_) #[true, true, true, true, true, true, true, true, true, true, true, true, true, true, true, true, false, false, false] rfl rfl (any_of HT_.out (by kernel_rfl)) (fun _ _ _ h => h) (Or.inl ⟨by rfl, ?_⟩) ?_ ?_
                                rotate_left
                                · intro w'
                                  go_simp
                                  with_reducible rfl
                                rotate_left
                                · simp only [Act.put, List.setIfInBounds_toArray, List.set_cons_zero, List.set_cons_succ, i64_w, i32_w]
                                  rfl
                                refine pure_ (i := 16) (N := some 63) (v := ?_) (a' := ?_) #[true, true, true, true, true, true, true, true, true, true, true, true, true, true, true, true, true, false, false] rfl rfl (any_of HT_.out (by kernel_rfl)) (fun _ _ _ h => h) (Or.inl ⟨by rfl, ?_⟩) ?_ ?_
                                rotate_left
                                · intro w'
                                  go_simp
                                  with_reducible rfl
                                rotate_left
                                · simp only [Act.put, List.setIfInBounds_toArray, List.set_cons_zero, List.set_cons_succ, i64_w, i32_w]
                                  rfl
                                refine pure_ (i := 17) (N := some 64) (v := ?_) (a' := ?_) #[true, true, true, true, true, true, true, true, true, true, true, true, true, true, true, true, true, true, false] rfl rfl (any_of HT_.out (by kernel_rfl)) (fun _ _ _ h => h) (Or.inl ⟨by rfl, ?_⟩) ?_ ?_
                                rotate_left
                                · intro w'
                                  go_simp
                                  with_reducible rfl
                                rotate_left
                                · simp only [Act.put, List.setIfInBounds_toArray, List.set_cons_zero, List.set_cons_succ, i64_w, i32_w]
                                  rfl
                                refine last_ (i := 18) (N := none) #[true, true, true, true, true, true, true, true, true, true, true, true, true, true, true, true, true, true, true] rfl rfl (one_of HT_.out (by kernel_rfl)) (by decide) (fun K hK => ?_)
                                refine skip_ (w1 := ?_) (by rfl) rfl ?_ ?_
                                rotate_left
                                · go_simp
                                  rfl
                                refine hK.out _ _ ?_
                                clear hK K
                                refine done_ (done_of HT_.out (by kernel_rfl)) ?_
                                try go_wp2
                                (try simp only [← hl7_3])
                                go_roundg k3
                                case measure => have := HJ2.out; have := HK2.out; have := HK3.out; omega
                                case rel => exact ⟨(y162), (wrap64 (x44_3 + 1)), (by first | rfl | (simp; done) | (simp [*]; done)), H', ⟨by have := HJ2.out; have := HK2.out; have := HK3.out; omega⟩, ⟨by (try simp only [hl7_2]); (try simp only [hl7_3]); (with_reducible repeat (first | apply Kd.S_alloc | apply Kd.S_drewN | apply Kd.S_drew)); exact HQ25.out⟩, ⟨by repeat (first | (with_reducible first | exact HI152.out | apply IsS76.alloc | apply IsS76.drewN | apply IsS76.drew | refine IsS76.far ?_ HN152_go23.out _) | exact HI152.out)⟩, ⟨by repeat (first | (with_reducible first | exact HB.out | apply below_alloc | apply pw_below_drewN | apply below_drew1 | refine below_set ?_ GB23.out | refine below_set ?_ (IsS76.ge HI152.out)) | exact HB.out)⟩⟩
                              · rw [if_neg c22] at H
                                exact absurd H (by simp)
                            · rw [if_neg c21] at H
                              exact absurd H (by simp)
                          · rw [if_neg c19] at H
                            exact absurd H (by simp)
                        · rw [if_neg c18] at H
                          exact absurd H (by simp)
                      · rw [if_neg c17] at H
                        have c17b0 : decide (x44_3 < ((rd_L1 x7_2 x36_2).length : Int)) = false := decide_eq_false c17
                        (try simp only [hl7_2] at c17b0)
                        (try simp only [hl7_3] at c17b0)
                        clear c17
                        have H' := Aside0.mk H
                        clear H
                        go_wp2
                        (try simp only [← hl7_2, ← hl7_3])
                        go_roundg k3
                        case measure => have := HJ2.out; have := HK2.out; have := HK3.out; omega
                        case rel => exact ⟨(x7_3), (wrap64 (x36_2 + 1)), (by first | rfl | (simp; done) | (simp [*]; done)), H', ⟨by have := HJ2.out; have := HK2.out; have := HK3.out; omega⟩, ⟨by (try simp only [hl7_2]); (try simp only [hl7_3]); (with_reducible repeat (first | apply Kd.S_alloc | apply Kd.S_drewN | apply Kd.S_drew)); exact HO_7.out⟩, ⟨by repeat (first | (with_reducible first | exact HI152.out | apply IsS76.alloc | apply IsS76.drewN | apply IsS76.drew) | exact HI152.out)⟩, ⟨by repeat (first | (with_reducible first | exact HB.out | apply below_alloc | apply pw_below_drewN | apply below_drew1 | refine below_set ?_ (IsS76.ge HI152.out)) | exact HB.out)⟩⟩
                · rw [if_neg c16] at H
                  exact absurd H (by simp)
              · rw [if_neg c15] at H
                exact absurd H (by simp)
            · rw [if_neg c14] at H
              have c14b0 : decide (x36_2 < (t153.length : Int)) = false := decide_eq_false c14
              (try simp only [hl7_2] at c14b0)
              clear c14
              simp only [Option.some.injEq, Prod.mk.injEq] at H
              obtain ⟨rfl, rfl⟩ := H
              go_wp2
              go_ret2
              exact ⟨_, by first | rfl | (simp [errW_none, errW_some] <;> rfl) | (simp [*, errW_none, errW_some] <;> rfl), by (with_reducible repeat (first | apply Kd.S_alloc | apply Kd.S_drewN | apply Kd.S_drew)); exact HO_7.out, by repeat (first | (with_reducible first | exact HB.out | apply below_alloc | apply pw_below_drewN | apply below_drew1 | refine below_set ?_ (IsS76.ge HI152.out)) | exact HB.out)⟩

end Go.Proofs.Ytidogckochpbgaa.A
