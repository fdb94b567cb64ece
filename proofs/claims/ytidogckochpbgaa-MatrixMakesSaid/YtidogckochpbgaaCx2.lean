-- Printed for this claim by mp.py, a program of its prover, through the kit's print. Lean checks it.
import Derived.Test.YtidogckochpbgaaCx0
namespace Go.Proofs.Ytidogckochpbgaa.C
open Go.RowKit Go.Proofs.YtidogckochpbgaaW.PrintWords Go.Proofs.YtidogckochpbgaaW.PrintLast Go.Proofs.YtidogckochpbgaaW.PrintMore Go.Proofs.Ytidogckochpbgaa.A
attribute [local go_sem] max2_int min2_int max_two min_two max_three min_three max_four min_four   -- for this text's walks alone
set_option linter.unusedVariables false
set_option linter.unusedSimpArgs false

/-! ### culletref10_Vandermonde: function 57 -/
mutual
def culletref10_Vandermonde.j0 : Nat → Int → Int → Bool → Option ((List (List Int)) × Int)
  | 0, _, _, _ => none
  | k + 1, x0, x1, x23 => if x23 = true then (some (([] : List (List Int)), 100)) else ((culletref10_zeros.f k x0 x1).bind fun t109 => (culletref10_Vandermonde.l0 k x0 x1 t109 0))
def culletref10_Vandermonde.l0 : Nat → Int → Int → List (List Int) → Int → Option ((List (List Int)) × Int)
  | 0, _, _, _, _ => none
  | k + 1, x0, x1, x6, x7 => if x7 < x0 then (culletref10_Vandermonde.l1 k x0 x1 x6 x7 1 0) else (some (x6, 0))
def culletref10_Vandermonde.l1 : Nat → Int → Int → List (List Int) → Int → Int → Int → Option ((List (List Int)) × Int)
  | 0, _, _, _, _, _, _ => none
  | k + 1, x0, x1, x6, x7, x8, x9 => if x9 < x1 then (if 0 ≤ x7 then (if x7 < (x6.length : Int) then (if 0 ≤ x9 then (if x9 < ((rd_L1 x6 x7).length : Int) then ((culletref02_Mul.f k x8 ((x7) % 256)).bind fun t116 => (culletref10_Vandermonde.l1 k x0 x1 (x6.set (x7 : Int).toNat ((rd_L1 x6 x7).set (x9 : Int).toNat x8)) x7 t116 (wrap64 (x9 + 1)))) else (none)) else (none)) else (none)) else (none)) else (culletref10_Vandermonde.l0 k x0 x1 x6 (wrap64 (x7 + 1)))
end
def culletref10_Vandermonde.f (k : Nat) (a0 : Int) (a1 : Int) : Option ((List (List Int)) × Int) := if a0 < 1 then (culletref10_Vandermonde.j0 k a0 a1 true) else (if a0 > 256 then (culletref10_Vandermonde.j0 k a0 a1 true) else (if a1 < 1 then (culletref10_Vandermonde.j0 k a0 a1 true) else (culletref10_Vandermonde.j0 k a0 a1 (decide (a1 > 512)))))
theorem culletref10_Vandermonde.mono_l : ∀ k, (∀ y0 y1 y2, LeO (culletref10_Vandermonde.j0 k y0 y1 y2) (culletref10_Vandermonde.j0 (k + 1) y0 y1 y2)) ∧ (∀ y0 y1 y2 y3, LeO (culletref10_Vandermonde.l0 k y0 y1 y2 y3) (culletref10_Vandermonde.l0 (k + 1) y0 y1 y2 y3)) ∧ (∀ y0 y1 y2 y3 y4 y5, LeO (culletref10_Vandermonde.l1 k y0 y1 y2 y3 y4 y5) (culletref10_Vandermonde.l1 (k + 1) y0 y1 y2 y3 y4 y5))
  | 0 => ⟨fun _ _ _ r h => by simp [culletref10_Vandermonde.j0] at h, fun _ _ _ _ r h => by simp [culletref10_Vandermonde.l0] at h, fun _ _ _ _ _ _ r h => by simp [culletref10_Vandermonde.l1] at h⟩
  | k + 1 => by
    obtain ⟨ih0, ih1, ih2⟩ := culletref10_Vandermonde.mono_l k
    refine ⟨?_, ?_, ?_⟩
    · intro y0 y1 y2
      unfold culletref10_Vandermonde.j0
      repeat' first
      | (with_reducible exact ih0 _ _ _)
      | (with_reducible exact ih1 _ _ _ _)
      | (with_reducible exact ih2 _ _ _ _ _ _)
      | (with_reducible exact culletref02_Mul.mono _ _ _)
      | (with_reducible exact culletref10_zeros.mono _ _ _)
      | (with_reducible exact LeO.refl _)
      | (with_reducible exact LeO.none _)
      | (with_reducible refine LeO.ite ?_ ?_)
      | (with_reducible refine LeO.bind ?_ (fun _ => ?_))
      | exact ih0 _ _ _
      | exact ih1 _ _ _ _
      | exact ih2 _ _ _ _ _ _
      | exact culletref02_Mul.mono _ _ _
      | exact culletref10_zeros.mono _ _ _
      | exact LeO.none _
      | refine LeO.ite ?_ ?_
      | refine LeO.bind ?_ (fun _ => ?_)
    · intro y0 y1 y2 y3
      unfold culletref10_Vandermonde.l0
      repeat' first
      | (with_reducible exact ih0 _ _ _)
      | (with_reducible exact ih1 _ _ _ _)
      | (with_reducible exact ih2 _ _ _ _ _ _)
      | (with_reducible exact culletref02_Mul.mono _ _ _)
      | (with_reducible exact culletref10_zeros.mono _ _ _)
      | (with_reducible exact LeO.refl _)
      | (with_reducible exact LeO.none _)
      | (with_reducible refine LeO.ite ?_ ?_)
      | (with_reducible refine LeO.bind ?_ (fun _ => ?_))
      | exact ih0 _ _ _
      | exact ih1 _ _ _ _
      | exact ih2 _ _ _ _ _ _
      | exact culletref02_Mul.mono _ _ _
      | exact culletref10_zeros.mono _ _ _
      | exact LeO.none _
      | refine LeO.ite ?_ ?_
      | refine LeO.bind ?_ (fun _ => ?_)
    · intro y0 y1 y2 y3 y4 y5
      unfold culletref10_Vandermonde.l1
      repeat' first
      | (with_reducible exact ih0 _ _ _)
      | (with_reducible exact ih1 _ _ _ _)
      | (with_reducible exact ih2 _ _ _ _ _ _)
      | (with_reducible exact culletref02_Mul.mono _ _ _)
      | (with_reducible exact culletref10_zeros.mono _ _ _)
      | (with_reducible exact LeO.refl _)
      | (with_reducible exact LeO.none _)
      | (with_reducible refine LeO.ite ?_ ?_)
      | (with_reducible refine LeO.bind ?_ (fun _ => ?_))
      | exact ih0 _ _ _
      | exact ih1 _ _ _ _
      | exact ih2 _ _ _ _ _ _
      | exact culletref02_Mul.mono _ _ _
      | exact culletref10_zeros.mono _ _ _
      | exact LeO.none _
      | refine LeO.ite ?_ ?_
      | refine LeO.bind ?_ (fun _ => ?_)
theorem culletref10_Vandermonde.mono : ∀ a0 a1 k, LeO (culletref10_Vandermonde.f k a0 a1) (culletref10_Vandermonde.f (k + 1) a0 a1) := by
  intro a0 a1 k
  obtain ⟨ih0, ih1, ih2⟩ := culletref10_Vandermonde.mono_l k
  unfold culletref10_Vandermonde.f
  repeat' first
      | (with_reducible exact ih0 _ _ _)
      | (with_reducible exact ih1 _ _ _ _)
      | (with_reducible exact ih2 _ _ _ _ _ _)
      | (with_reducible exact culletref02_Mul.mono _ _ _)
      | (with_reducible exact culletref10_zeros.mono _ _ _)
      | (with_reducible exact LeO.refl _)
      | (with_reducible exact LeO.none _)
      | (with_reducible refine LeO.ite ?_ ?_)
      | (with_reducible refine LeO.bind ?_ (fun _ => ?_))
      | exact ih0 _ _ _
      | exact ih1 _ _ _ _
      | exact ih2 _ _ _ _ _ _
      | exact culletref02_Mul.mono _ _ _
      | exact culletref10_zeros.mono _ _ _
      | exact LeO.none _
      | refine LeO.ite ?_ ?_
      | refine LeO.bind ?_ (fun _ => ?_)
set_option maxHeartbeats 8000000 in
set_option maxRecDepth 100000 in
theorem culletref10_Vandermonde.calls (k : Nat) (a0 : Int) (a1 : Int) (r1 : List (List Int)) (r2 : Int) (w : World) (h : culletref10_Vandermonde.f k a0 a1 = some (r1, r2)) :
    Calls Try.prog 57 #[.int .i64 a0, .int .i64 a1] w fun e w' => ∃ v0_ : Value, e = .returned (.tuple #[v0_, .int .i64 r2]) ∧ Kd.S (Kd.slice 5 (Kd.int .u8)) 31 w' w.heap.size (fun _ => True) v0_ r1 ∧ Below w.heap.size w w' := by
  have HB := Aside0.mk (Below.refl w.heap.size w)
  have H : (if a0 < 1 then (culletref10_Vandermonde.j0 k a0 a1 true) else (if a0 > 256 then (culletref10_Vandermonde.j0 k a0 a1 true) else (if a1 < 1 then (culletref10_Vandermonde.j0 k a0 a1 true) else (culletref10_Vandermonde.j0 k a0 a1 (decide (a1 > 512)))))) = some (r1, r2) := h
  clear h
  have HC3 := Aside0.mk H
  clear H
  go_enter Try.func57, Try.ntmps57
  go_upto_region 1 with (fail)
  go_cut [23] (fun v23 wc => ∃ (kq : Nat) (x23_2 : Bool), v23 = .bool x23_2 ∧ Aside0 (culletref10_Vandermonde.j0 kq a0 a1 x23_2 = some (r1, r2)) ∧ Aside0 (kq ≤ k) ∧ Aside0 (Below w.heap.size w wc))
  case first =>
    have H := HC3.out
    clear HC3
    by_cases c4 : a0 < 1
    · rw [if_pos c4] at H
      have c4b0 : decide (a0 < 1) = true := decide_eq_true c4
      clear c4
      (first | rw [c4b0] | (simp only [i64_w, i32_w]; rw [c4b0]) | skip)
      have H' := Aside0.mk H
      clear H
      go_wp2
      go_meet
      case rel => exact ⟨_, (true), (by first | rfl | (simp; done) | (simp [*]; done)), H', ⟨by first | omega | exact Nat.le_refl _⟩, ⟨by repeat (first | (with_reducible first | exact HB.out | apply below_alloc | apply pw_below_drewN | apply below_drew1) | exact HB.out)⟩⟩
    · rw [if_neg c4] at H
      have c4b0 : decide (a0 < 1) = false := decide_eq_false c4
      clear c4
      (first | rw [c4b0] | (simp only [i64_w, i32_w]; rw [c4b0]) | skip)
      by_cases c5 : a0 > 256
      · rw [if_pos c5] at H
        have c5b0 : decide (256 < a0) = true := decide_eq_true c5
        clear c5
        have H' := Aside0.mk H
        clear H
        go_wp2
        go_meet
        case rel => exact ⟨_, (true), (by first | rfl | (simp; done) | (simp [*]; done)), H', ⟨by first | omega | exact Nat.le_refl _⟩, ⟨by repeat (first | (with_reducible first | exact HB.out | apply below_alloc | apply pw_below_drewN | apply below_drew1) | exact HB.out)⟩⟩
      · rw [if_neg c5] at H
        have c5b0 : decide (256 < a0) = false := decide_eq_false c5
        clear c5
        by_cases c6 : a1 < 1
        · rw [if_pos c6] at H
          have c6b0 : decide (a1 < 1) = true := decide_eq_true c6
          clear c6
          have H' := Aside0.mk H
          clear H
          go_wp2
          go_meet
          case rel => exact ⟨_, (true), (by first | rfl | (simp; done) | (simp [*]; done)), H', ⟨by first | omega | exact Nat.le_refl _⟩, ⟨by repeat (first | (with_reducible first | exact HB.out | apply below_alloc | apply pw_below_drewN | apply below_drew1) | exact HB.out)⟩⟩
        · rw [if_neg c6] at H
          have c6b0 : decide (a1 < 1) = false := decide_eq_false c6
          clear c6
          have H' := Aside0.mk H
          clear H
          go_wp2
          go_meet
          case rel => exact ⟨_, (decide (a1 > 512)), (by first | rfl | (simp; done) | (simp [*]; done)), H', ⟨by first | omega | exact Nat.le_refl _⟩, ⟨by repeat (first | (with_reducible first | exact HB.out | apply below_alloc | apply pw_below_drewN | apply below_drew1) | exact HB.out)⟩⟩
  case rest =>
    clear HC3
    try clear p2
    try clear c4
    try clear c4b0
    try clear c5
    try clear c5b0
    try clear c6
    try clear c6b0
    obtain ⟨kq, x23_2, rfl, HA, HJ2, HB⟩ := hcut
    cases kq with
    | zero => exact absurd HA.out (by simp [culletref10_Vandermonde.j0])
    | succ kj2 =>
      have H := HA.out
      clear HA
      simp only [culletref10_Vandermonde.j0] at H
      by_cases c7 : x23_2 = true
      · subst c7
        have H1 : (some (([] : List (List Int)), 100)) = some (r1, r2) := by rw [if_pos rfl] at H; exact H
        clear H
        have H := H1
        clear H1
        simp only [Option.some.injEq, Prod.mk.injEq] at H
        obtain ⟨rfl, rfl⟩ := H
        go_wp2
        go_ret2
        exact ⟨_, by first | rfl | (simp [errW_none, errW_some] <;> rfl) | (simp [*, errW_none, errW_some] <;> rfl), by first | exact Kd.S_nil _ _ _ _ _ | exact Kd.N_nil _ _ _ _ _ | exact Kd.V_nil _ _ _ _ _ | exact Kd.Q_nil _ _ _ _ _ | exact Kd.R_nil _ _ _ _ _, by repeat (first | (with_reducible first | exact HB.out | apply below_alloc | apply pw_below_drewN | apply below_drew1) | exact HB.out)⟩
      · replace c7 := Bool.eq_false_iff.mpr c7
        subst c7
        have H1 : ((culletref10_zeros.f kj2 a0 a1).bind fun t109 => (culletref10_Vandermonde.l0 kj2 a0 a1 t109 0)) = some (r1, r2) := by rw [if_neg (show ¬ (false = true) by decide)] at H; exact H
        clear H
        have H := H1
        clear H1
        replace H := Option.bind_eq_some_iff.mp H
        obtain ⟨t109, A80, H⟩ := H
        replace H : (culletref10_Vandermonde.l0 kj2 a0 a1 t109 0) = some (r1, r2) := H
        have A8 := Aside0.mk A80
        clear A80
        have H' := Aside0.mk H
        clear H
        go_wp2_with (first | ((with_reducible refine gate_callee (f := 70) rfl ?_); refine goesL_ (some 26) rfl rfl Try.func70 (by kernel_rfl) rfl #[.int .i64 a0, .int .i64 a1] rfl (by (try simp only [List.map_toArray, List.map_cons, List.map_nil]); first | done | rfl | (simp only [tb_wrap8]; done) | (simp only [tb_wrap8]; rfl) | (simp only [List.length_drop, List.length_take]; rfl)) ?_; (with_reducible refine (culletref10_zeros.calls kj2 a0 a1 t109 _ A8.out).mono ?_); rintro e w9 ⟨v110, rfl, ho0, hb⟩; refine ⟨_, rfl, ?_⟩; have n0_ := Aside0.mk (Kd.S_lower ho0 (below_size (by repeat (first | (with_reducible first | exact HB.out | apply below_alloc | apply pw_below_drewN | apply below_drew1) | exact HB.out)))); have n1_ := Aside0.mk (below_step (by repeat (first | (with_reducible first | exact HB.out | apply below_alloc | apply pw_below_drewN | apply below_drew1) | exact HB.out)) hb); clear HB; have HO111 := n0_; have HB := n1_; clear n0_ n1_; (try clear hb); (try clear hb2); (try clear hk); (try clear hi); (try clear ho0)))
        go_loopg [7] kj2 (fun kq v7 w' => ∃ (x6_2 : List (List Int)) (x7_2 : Int), v7 = .int .i64 x7_2 ∧ Aside0 (culletref10_Vandermonde.l0 kq a0 a1 x6_2 x7_2 = some (r1, r2)) ∧ Aside0 (kq ≤ kj2) ∧ Aside0 (Kd.S (Kd.slice 5 (Kd.int .u8)) 31 w' w.heap.size (fun _ => True) v110 x6_2) ∧ Aside0 (Below w.heap.size w w'))
        case atStart => exact ⟨(t109), (0), (by first | rfl | (simp; done) | (simp [*]; done)), H', ⟨Nat.le_refl _⟩, ⟨by (with_reducible repeat (first | apply Kd.S_alloc | apply Kd.S_drewN | apply Kd.S_drew)); exact HO111.out⟩, ⟨by repeat (first | (with_reducible first | exact HB.out | apply below_alloc | apply pw_below_drewN | apply below_drew1) | exact HB.out)⟩⟩
        case round =>
          clear H'
          try clear p2
          try clear c4
          try clear c4b0
          try clear c5
          try clear c5b0
          try clear c6
          try clear c6b0
          try clear c7
          try clear p8
          try clear p2
          obtain ⟨x6_2, x7_2, rfl, HA, HK2, HO_6, HB⟩ := hrel
          cases gk with
          | zero => exact absurd HA.out (by simp [culletref10_Vandermonde.l0])
          | succ k2 =>
            have H := HA.out
            clear HA
            simp only [culletref10_Vandermonde.l0] at H
            by_cases c10 : x7_2 < a0
            · rw [if_pos c10] at H
              have c10b0 : decide (x7_2 < a0) = true := decide_eq_true c10
              clear c10
              have H' := Aside0.mk H
              clear H
              go_wp2
              go_loopg [8, 9] k2 (fun kq v8 v9 w' => ∃ (x6_3 : List (List Int)) (x8_3 : Int) (x9_3 : Int), v8 = .int .u8 x8_3 ∧ v9 = .int .i64 x9_3 ∧ Aside0 (culletref10_Vandermonde.l1 kq a0 a1 x6_3 x7_2 x8_3 x9_3 = some (r1, r2)) ∧ Aside0 (kq ≤ k2) ∧ Aside0 (Kd.S (Kd.slice 5 (Kd.int .u8)) 31 w' w.heap.size (fun _ => True) v110 x6_3) ∧ Aside0 (Below w.heap.size w w'))
              case atStart => exact ⟨(x6_2), (1), (0), (by first | rfl | (simp; done) | (simp [*]; done)), (by first | rfl | (simp; done) | (simp [*]; done)), H', ⟨Nat.le_refl _⟩, ⟨by (with_reducible repeat (first | apply Kd.S_alloc | apply Kd.S_drewN | apply Kd.S_drew)); exact HO_6.out⟩, ⟨by repeat (first | (with_reducible first | exact HB.out | apply below_alloc | apply pw_below_drewN | apply below_drew1) | exact HB.out)⟩⟩
              case round =>
                clear H'
                try clear c1
                try clear p2
                try clear c4
                try clear c4b0
                try clear c5
                try clear c5b0
                try clear c6
                try clear c6b0
                try clear c7
                try clear p8
                try clear c10
                try clear c10b0
                try clear p2
                try clear p8
                obtain ⟨x6_3, x8_3, x9_3, rfl, rfl, HA, HK3, HO_6, HB⟩ := hrel
                cases gk with
                | zero => exact absurd HA.out (by simp [culletref10_Vandermonde.l1])
                | succ k3 =>
                  have H := HA.out
                  clear HA
                  simp only [culletref10_Vandermonde.l1] at H
                  by_cases c11 : x9_3 < a1
                  · rw [if_pos c11] at H
                    have c11b0 : decide (x9_3 < a1) = true := decide_eq_true c11
                    clear c11
                    by_cases c12 : 0 ≤ x7_2
                    · rw [if_pos c12] at H
                      have c12b0 : decide (0 ≤ x7_2) = true := decide_eq_true c12
                      clear c12
                      by_cases c13 : x7_2 < (x6_3.length : Int)
                      · rw [if_pos c13] at H
                        have c13b0 : decide (x7_2 < (x6_3.length : Int)) = true := decide_eq_true c13
                        clear c13
                        by_cases c14 : 0 ≤ x9_3
                        · rw [if_pos c14] at H
                          have c14b0 : decide (0 ≤ x9_3) = true := decide_eq_true c14
                          clear c14
                          by_cases c15 : x9_3 < ((rd_L1 x6_3 x7_2).length : Int)
                          · rw [if_pos c15] at H
                            have c15b0 : decide (x9_3 < ((rd_L1 x6_3 x7_2).length : Int)) = true := decide_eq_true c15
                            clear c15
                            obtain ⟨y113, hy113⟩ : ∃ y_ : List Int, y_ = ((rd_L1 x6_3 x7_2).set (x9_3 : Int).toNat x8_3) := ⟨_, rfl⟩
                            replace H : ((culletref02_Mul.f k3 x8_3 ((x7_2) % 256)).bind fun t116 => (culletref10_Vandermonde.l1 k3 a0 a1 (x6_3.set (x7_2 : Int).toNat y113) x7_2 t116 (wrap64 (x9_3 + 1)))) = some (r1, r2) := by first | (rw [hy113]; with_reducible exact H) | (have H2_ := (Option.bind_some _ _).symm.trans H; rw [hy113]; with_reducible exact H2_) | (have H2_ := (Option.bind_some _ _).symm.trans H; with_reducible exact H2_) | with_reducible exact H | (rw [hy113]; exact H) | exact H
                            have Ny113 := Aside0.mk hy113
                            clear hy113
                            obtain ⟨y115, hy115⟩ : ∃ y_ : List (List Int), y_ = (x6_3.set (x7_2 : Int).toNat y113) := ⟨_, rfl⟩
                            replace H : ((culletref02_Mul.f k3 x8_3 ((x7_2) % 256)).bind fun t116 => (culletref10_Vandermonde.l1 k3 a0 a1 y115 x7_2 t116 (wrap64 (x9_3 + 1)))) = some (r1, r2) := by first | (rw [hy115]; with_reducible exact H) | (have H2_ := (Option.bind_some _ _).symm.trans H; rw [hy115]; with_reducible exact H2_) | (have H2_ := (Option.bind_some _ _).symm.trans H; with_reducible exact H2_) | with_reducible exact H | (rw [hy115]; exact H) | exact H
                            have Ny115 := Aside0.mk hy115
                            clear hy115
                            replace H := Option.bind_eq_some_iff.mp H
                            obtain ⟨t116, A170, H⟩ := H
                            replace H : (culletref10_Vandermonde.l1 k3 a0 a1 y115 x7_2 t116 (wrap64 (x9_3 + 1))) = some (r1, r2) := H
                            have A17 := Aside0.mk A170
                            clear A170
                            have H' := Aside0.mk H
                            clear H
                            obtain ⟨Ao18, co18, eo18⟩ := Kd.S_slice HO_6.out
                            subst eo18
                            have p112 : 0 ≤ (x7_2 : Int) := of_decide_eq_true (by first | (with_reducible assumption) | assumption)
                            have q112 : x7_2 < (x6_3.length : Int) := of_decide_eq_true (by first | (with_reducible assumption) | assumption)
                            obtain ⟨ad112, A112_0, c112_0, e112, hx112_0, hl112_0, hi112_0⟩ := at_L1 (Kd.S_reads' HO_6.out).2.2 x7_2 p112 q112
                            cases e112
                            obtain ⟨ce112, hce112, hMe112, hcc112⟩ := Kd.S_get HO_6.out [] x7_2 p112 (by first | exact q112 | exact of_decide_eq_true (by first | (with_reducible assumption) | assumption) | (have e_ := (Kd.S_reads' HO_6.out).1; omega))
                            obtain ⟨ve112_0, rfl, ge112_0⟩ := hMe112
                            have hv112_0 := hcc112 0 _ rfl
                            rw [Nat.add_zero, show ((Kd.slice 5 (Kd.int .u8))).sz = 1 from rfl, Nat.mul_one] at hv112_0
                            replace hv112_0 := Option.some.inj (hv112_0.symm.trans hx112_0)
                            rw [hv112_0] at ge112_0
                            have HL112_0 := Aside0.mk (show Kd.R (Kd.int .u8) 5 _ _ _ _ (rd_L1 x6_3 x7_2) from ge112_0)
                            clear hv112_0 ge112_0
                            have HX112_0 := Aside0.mk hx112_0
                            clear hcc112 hce112
                            have HR112_0 := Aside0.mk hi112_0
                            have HC112_0 := Aside0.mk hl112_0
                            clear hi112_0 hl112_0
                            replace p112 := eq_true p112
                            replace q112 := eq_true q112
                            have p16 : 0 ≤ (x9_3 : Int) := of_decide_eq_true (by first | (with_reducible assumption) | assumption)
                            have q16 : (x9_3 : Int) < (((rd_L1 x6_3 x7_2).length : Int) : Int) := of_decide_eq_true (by first | (with_reducible assumption) | assumption)
                            obtain ⟨go16, co16, eo16, gb16, gl16, cl16, HG16⟩ := Kd.R_form HL112_0.out (by omega)
                            (first | cases eo16 | (injection eo16 with ea_ en_ ec_; (first | subst ea_ | (injection ea_ with ea_; subst ea_)); subst ec_; clear en_))
                            have GB16 := Aside0.mk gb16
                            have GG16 := Aside0.mk HG16
                            clear gb16 gl16 HG16
                            obtain ⟨hx16_0, hf16_0⟩ := Kd.R_celln 0 HL112_0.out (x9_3 : Int) p16 q16
                            replace p16 := eq_true p16
                            replace q16 := eq_true q16
                            have hq19 : (x7_2 : Int) < (x6_3.length : Int) := (by have h_ : (x7_2 : Int) < ((x6_3.length : Int) : Int) := of_decide_eq_true (by first | (with_reducible assumption) | assumption); first | exact h_ | (have e_ := (Kd.S_reads' HO_6.out).1; omega) | simpa only [List.length_set, List.length_set] using h_)
                            obtain ⟨oki19, ce19, hcl19, hM19, hcc19, hok19, hbk19⟩ := Kd.S_borrow HO_6.out [] (x7_2 : Int) (of_decide_eq_true (by first | (with_reducible assumption) | assumption)) hq19
                            obtain ⟨ve19_0, rfl, ge19_0⟩ := hM19
                            have hv19 := hcc19 0 _ rfl
                            rw [Nat.add_zero, show ((Kd.slice 5 (Kd.int .u8))).sz = 1 from rfl, Nat.mul_one] at hv19
                            replace hv19 := Option.some.inj (hv19.symm.trans HX112_0.out)
                            subst hv19
                            clear hcc19 hcl19
                            replace ge19_0 := (show Kd.R (Kd.int .u8) 5 _ _ _ _ (rd_L1 x6_3 x7_2) from ge19_0)
                            have HP19 := Kd.R_putg ge19_0 (x9_3 : Int) x8_3
                            go_wp2_with (first | ((with_reducible refine gate_store (t := 5) (p := 43) rfl ?_); refine store_event (t := 5) (p := 43) (v := ?vo_w20) (w1 := (wr.setCell ⟨go16, (x9_3 : Int).toNat, none⟩ (.int .u8 x8_3))) ?hg ?ho ?hn ?hr ?_; (case ho => rfl); (case hg => rfl); (case hn => rfl); (case hr => first | (go_simp; done) | (go_simp; rfl)); intro w20 hw; have hg : wr.grownBy w20 (some go16) := (by rw [hw]; exact HP19.2); have hz_ : Kd.R (Kd.int .u8) 5 w20 w.heap.size oki19 (.slice (some ⟨go16, 0, none⟩) (rd_L1 x6_3 x7_2).length c112_0) y113 := (by rw [hw, Ny113.out]; exact HP19.1); have hp_ : Kd.S (Kd.slice 5 (Kd.int .u8)) 31 w20 w.heap.size (fun _ => True) (.slice (some ad112) x6_3.length co18) y115 := (by rw [Ny115.out]; exact hbk19 hg (fun k_ e_ => by injection e_ with e_; subst e_; exact ge19_0.1 _ rfl) (Kd.M_row hz_)); have hm_ := Kd.R_mono hz_ hok19; clear HP19 hbk19; have n0_ := Aside0.mk (hp_); have n1_ := Aside0.mk ((by rw [hw]; exact below_set (HB.out) GB16.out : Below w.heap.size w w20)); have n2_ := Aside0.mk (hm_); have n3_ := Aside0.mk ((Kd.R_reads' hm_).2.1); clear HO_6; clear HB; clear HL112_0; have HO_6 := n0_; have HB := n1_; have HL117 := n2_; have HC114 := n3_; clear n0_ n1_ n2_ n3_; clear hg hw hp_ hz_ hm_ hok19) | ((with_reducible refine gate_callee (f := 71) rfl ?_); refine goesL_ (some 47) rfl rfl Try.func71 (by kernel_rfl) rfl #[.int .u8 x8_3, .int .u8 ((x7_2) % 256)] rfl (by (try simp only [List.map_toArray, List.map_cons, List.map_nil]); first | done | rfl | (simp only [tb_wrap8]; done) | (simp only [tb_wrap8]; rfl) | (simp only [List.length_drop, List.length_take]; rfl)) ?_; (with_reducible refine (culletref02_Mul.calls k3 x8_3 ((x7_2) % 256) t116 _ A17.out).mono ?_); rintro e w' ⟨rfl, ⟨nd, rfl⟩⟩; refine ⟨_, rfl, ?_⟩))
                            go_roundg k3
                            case measure => have := HJ2.out; have := HK2.out; have := HK3.out; omega
                            case rel => exact ⟨(y115), (t116), (wrap64 (x9_3 + 1)), (by first | rfl | (simp; done) | (simp [*]; done)), (by first | rfl | (simp; done) | (simp [*]; done)), H', ⟨by have := HJ2.out; have := HK2.out; have := HK3.out; omega⟩, ⟨by (with_reducible repeat (first | apply Kd.S_alloc | apply Kd.S_drewN | apply Kd.S_drew)); exact HO_6.out⟩, ⟨by repeat (first | (with_reducible first | exact HB.out | apply below_alloc | apply pw_below_drewN | apply below_drew1) | exact HB.out)⟩⟩
                          · rw [if_neg c15] at H
                            exact absurd H (by simp)
                        · rw [if_neg c14] at H
                          exact absurd H (by simp)
                      · rw [if_neg c13] at H
                        exact absurd H (by simp)
                    · rw [if_neg c12] at H
                      exact absurd H (by simp)
                  · rw [if_neg c11] at H
                    have c11b0 : decide (x9_3 < a1) = false := decide_eq_false c11
                    clear c11
                    have H' := Aside0.mk H
                    clear H
                    go_wp2
                    go_roundg k3
                    case measure => have := HJ2.out; have := HK2.out; have := HK3.out; omega
                    case rel => exact ⟨(x6_3), (wrap64 (x7_2 + 1)), (by first | rfl | (simp; done) | (simp [*]; done)), H', ⟨by have := HJ2.out; have := HK2.out; have := HK3.out; omega⟩, ⟨by (with_reducible repeat (first | apply Kd.S_alloc | apply Kd.S_drewN | apply Kd.S_drew)); exact HO_6.out⟩, ⟨by repeat (first | (with_reducible first | exact HB.out | apply below_alloc | apply pw_below_drewN | apply below_drew1) | exact HB.out)⟩⟩
            · rw [if_neg c10] at H
              have c10b0 : decide (x7_2 < a0) = false := decide_eq_false c10
              clear c10
              simp only [Option.some.injEq, Prod.mk.injEq] at H
              obtain ⟨rfl, rfl⟩ := H
              go_wp2
              go_ret2
              exact ⟨_, by first | rfl | (simp [errW_none, errW_some] <;> rfl) | (simp [*, errW_none, errW_some] <;> rfl), by (with_reducible repeat (first | apply Kd.S_alloc | apply Kd.S_drewN | apply Kd.S_drew)); exact HO_6.out, by repeat (first | (with_reducible first | exact HB.out | apply below_alloc | apply pw_below_drewN | apply below_drew1) | exact HB.out)⟩

/-! ### culletref02_Inv: function 72: told before -/

end Go.Proofs.Ytidogckochpbgaa.C
