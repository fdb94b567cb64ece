-- Printed for this claim by mp.py, a program of its prover, through the kit's print. Lean checks it.
import Derived.Test.YtidogckochpbgaaQx0
import Derived.Test.YtidogckochpbgaaQx2
import Derived.Test.YtidogckochpbgaaQx3
import Derived.Test.YtidogckochpbgaaQx5
namespace Go.Proofs.Ytidogckochpbgaa.Q
open Go.RowKit Go.Proofs.YtidogckochpbgaaW.PrintWords Go.Proofs.YtidogckochpbgaaW.PrintLast Go.Proofs.YtidogckochpbgaaW.PrintMore
attribute [local go_sem] max2_int min2_int max_two min_two max_three min_three max_four min_four   -- for this text's walks alone
set_option linter.unusedVariables false
set_option linter.unusedSimpArgs false

/-! ### culletlaw10_MatrixNames: function 3 -/
def culletlaw10_MatrixNames.j0 : Nat → Bool → Option (Bool)
  | 0, _ => none
  | k + 1, x50 => if x50 = true then (some false) else ((matrix_Cauchy.f k 255 1).bind fun bt151 => ((matrix_Cauchy.f k 255 2).bind fun bt155 => (if bt151.2 = 0 then (if bt155.2 = 100 then (if (bt151.1.length : Int) = 255 then (some ((bt155.1.length : Int) == 0)) else (some false)) else (some false)) else (some false))))
def culletlaw10_MatrixNames.f (k : Nat)  : Option (Bool) := (matrix_Vandermonde.f k 256 512).bind fun bt138 => ((matrix_Vandermonde.f k 257 1).bind fun bt142 => ((matrix_Vandermonde.f k 1 513).bind fun bt146 => (if bt138.2 = 0 then (if bt142.2 = 100 then (if bt146.2 = 100 then (if (bt138.1.length : Int) = 256 then (if (bt142.1.length : Int) = 0 then (if (bt146.1.length : Int) = 0 then ((matrix_Check.f k bt138.1).bind fun t150 => (culletlaw10_MatrixNames.j0 k (t150 != 0))) else (culletlaw10_MatrixNames.j0 k true)) else (culletlaw10_MatrixNames.j0 k true)) else (culletlaw10_MatrixNames.j0 k true)) else (culletlaw10_MatrixNames.j0 k true)) else (culletlaw10_MatrixNames.j0 k true)) else (culletlaw10_MatrixNames.j0 k true))))
theorem culletlaw10_MatrixNames.mono_l : ∀ k, (∀ y0, LeO (culletlaw10_MatrixNames.j0 k y0) (culletlaw10_MatrixNames.j0 (k + 1) y0))
  | 0 => fun _ r h => by simp [culletlaw10_MatrixNames.j0] at h
  | k + 1 => by
    have ih0 := culletlaw10_MatrixNames.mono_l k
    · intro y0
      unfold culletlaw10_MatrixNames.j0
      repeat' first
      | (with_reducible exact ih0 _)
      | (with_reducible exact matrix_Cauchy.mono _ _ _)
      | (with_reducible exact matrix_Check.mono _ _)
      | (with_reducible exact matrix_Vandermonde.mono _ _ _)
      | (with_reducible exact LeO.refl _)
      | (with_reducible exact LeO.none _)
      | (with_reducible refine LeO.ite ?_ ?_)
      | (with_reducible refine LeO.bind ?_ (fun _ => ?_))
      | exact ih0 _
      | exact matrix_Cauchy.mono _ _ _
      | exact matrix_Check.mono _ _
      | exact matrix_Vandermonde.mono _ _ _
      | exact LeO.none _
      | refine LeO.ite ?_ ?_
      | refine LeO.bind ?_ (fun _ => ?_)
theorem culletlaw10_MatrixNames.mono : ∀ k, LeO (culletlaw10_MatrixNames.f k ) (culletlaw10_MatrixNames.f (k + 1) ) := by
  intro  k
  have ih0 := culletlaw10_MatrixNames.mono_l k
  unfold culletlaw10_MatrixNames.f
  repeat' first
      | (with_reducible exact ih0 _)
      | (with_reducible exact matrix_Cauchy.mono _ _ _)
      | (with_reducible exact matrix_Check.mono _ _)
      | (with_reducible exact matrix_Vandermonde.mono _ _ _)
      | (with_reducible exact LeO.refl _)
      | (with_reducible exact LeO.none _)
      | (with_reducible refine LeO.ite ?_ ?_)
      | (with_reducible refine LeO.bind ?_ (fun _ => ?_))
      | exact ih0 _
      | exact matrix_Cauchy.mono _ _ _
      | exact matrix_Check.mono _ _
      | exact matrix_Vandermonde.mono _ _ _
      | exact LeO.none _
      | refine LeO.ite ?_ ?_
      | refine LeO.bind ?_ (fun _ => ?_)
set_option maxHeartbeats 8000000 in
set_option maxRecDepth 100000 in
theorem culletlaw10_MatrixNames.calls (k : Nat)  (r : Bool) (w : World) (h : culletlaw10_MatrixNames.f k  = some r) :
    Calls Try.prog 3 #[] w fun e w' => e = .returned (.bool r) ∧ Below w.heap.size w w' := by
  have HB := Aside0.mk (Below.refl w.heap.size w)
  have H : ((matrix_Vandermonde.f k 256 512).bind fun bt138 => ((matrix_Vandermonde.f k 257 1).bind fun bt142 => ((matrix_Vandermonde.f k 1 513).bind fun bt146 => (if bt138.2 = 0 then (if bt142.2 = 100 then (if bt146.2 = 100 then (if (bt138.1.length : Int) = 256 then (if (bt142.1.length : Int) = 0 then (if (bt146.1.length : Int) = 0 then ((matrix_Check.f k bt138.1).bind fun t150 => (culletlaw10_MatrixNames.j0 k (t150 != 0))) else (culletlaw10_MatrixNames.j0 k true)) else (culletlaw10_MatrixNames.j0 k true)) else (culletlaw10_MatrixNames.j0 k true)) else (culletlaw10_MatrixNames.j0 k true)) else (culletlaw10_MatrixNames.j0 k true)) else (culletlaw10_MatrixNames.j0 k true))))) = some r := h
  clear h
  replace H := Option.bind_eq_some_iff.mp H
  obtain ⟨⟨t138, t139⟩, A10, H⟩ := H
  replace H : ((matrix_Vandermonde.f k 257 1).bind fun bt142 => ((matrix_Vandermonde.f k 1 513).bind fun bt146 => (if t139 = 0 then (if bt142.2 = 100 then (if bt146.2 = 100 then (if (t138.length : Int) = 256 then (if (bt142.1.length : Int) = 0 then (if (bt146.1.length : Int) = 0 then ((matrix_Check.f k t138).bind fun t150 => (culletlaw10_MatrixNames.j0 k (t150 != 0))) else (culletlaw10_MatrixNames.j0 k true)) else (culletlaw10_MatrixNames.j0 k true)) else (culletlaw10_MatrixNames.j0 k true)) else (culletlaw10_MatrixNames.j0 k true)) else (culletlaw10_MatrixNames.j0 k true)) else (culletlaw10_MatrixNames.j0 k true)))) = some r := H
  have A1 := Aside0.mk A10
  clear A10
  replace H := Option.bind_eq_some_iff.mp H
  obtain ⟨⟨t142, t143⟩, A20, H⟩ := H
  replace H : ((matrix_Vandermonde.f k 1 513).bind fun bt146 => (if t139 = 0 then (if t143 = 100 then (if bt146.2 = 100 then (if (t138.length : Int) = 256 then (if (t142.length : Int) = 0 then (if (bt146.1.length : Int) = 0 then ((matrix_Check.f k t138).bind fun t150 => (culletlaw10_MatrixNames.j0 k (t150 != 0))) else (culletlaw10_MatrixNames.j0 k true)) else (culletlaw10_MatrixNames.j0 k true)) else (culletlaw10_MatrixNames.j0 k true)) else (culletlaw10_MatrixNames.j0 k true)) else (culletlaw10_MatrixNames.j0 k true)) else (culletlaw10_MatrixNames.j0 k true))) = some r := H
  have A2 := Aside0.mk A20
  clear A20
  replace H := Option.bind_eq_some_iff.mp H
  obtain ⟨⟨t146, t147⟩, A30, H⟩ := H
  replace H : (if t139 = 0 then (if t143 = 100 then (if t147 = 100 then (if (t138.length : Int) = 256 then (if (t142.length : Int) = 0 then (if (t146.length : Int) = 0 then ((matrix_Check.f k t138).bind fun t150 => (culletlaw10_MatrixNames.j0 k (t150 != 0))) else (culletlaw10_MatrixNames.j0 k true)) else (culletlaw10_MatrixNames.j0 k true)) else (culletlaw10_MatrixNames.j0 k true)) else (culletlaw10_MatrixNames.j0 k true)) else (culletlaw10_MatrixNames.j0 k true)) else (culletlaw10_MatrixNames.j0 k true)) = some r := H
  have A3 := Aside0.mk A30
  clear A30
  have HC4 := Aside0.mk H
  clear H
  go_enter Try.func3, Try.ntmps3
  go_upto_region 6 with (first | ((with_reducible refine gate_callee (f := 13) rfl ?_); refine goesL_ (some 10) rfl rfl Try.func13 (by kernel_rfl) rfl #[.int .i64 256, .int .i64 512] rfl (by (try simp only [List.map_toArray, List.map_cons, List.map_nil]); first | done | rfl | (simp only [tb_wrap8]; done) | (simp only [tb_wrap8]; rfl) | (simp only [List.length_drop, List.length_take]; rfl)) ?_; (with_reducible refine (matrix_Vandermonde.calls k 256 512 t138 t139 _ A1.out).mono ?_); rintro e w5 ⟨v140, rfl, ho0, hb⟩; refine ⟨_, rfl, ?_⟩; have n0_ := Aside0.mk (Kd.S_lower ho0 (below_size (by repeat (first | (with_reducible first | exact HB.out | apply below_alloc | apply pw_below_drewN | apply below_drew1) | exact HB.out)))); have n1_ := Aside0.mk (below_step (by repeat (first | (with_reducible first | exact HB.out | apply below_alloc | apply pw_below_drewN | apply below_drew1) | exact HB.out)) hb); clear HB; have HO141 := n0_; have HB := n1_; clear n0_ n1_; (try clear hb); (try clear hb2); (try clear hk); (try clear hi); (try clear ho0)) | ((with_reducible refine gate_callee (f := 13) rfl ?_); refine goesL_ (some 14) rfl rfl Try.func13 (by kernel_rfl) rfl #[.int .i64 257, .int .i64 1] rfl (by (try simp only [List.map_toArray, List.map_cons, List.map_nil]); first | done | rfl | (simp only [tb_wrap8]; done) | (simp only [tb_wrap8]; rfl) | (simp only [List.length_drop, List.length_take]; rfl)) ?_; (with_reducible refine (matrix_Vandermonde.calls k 257 1 t142 t143 _ A2.out).mono ?_); rintro e w6 ⟨v144, rfl, ho0, hb⟩; refine ⟨_, rfl, ?_⟩; have n0_ := Aside0.mk (Kd.S_elder' (by (with_reducible repeat (first | apply Kd.S_alloc | apply Kd.S_drewN | apply Kd.S_drew)); exact HO141.out) (Kd.S_base ho0) hb); have n1_ := Aside0.mk (Kd.S_lower (Kd.S_new' ho0 (Kd.S_lt (by (with_reducible repeat (first | apply Kd.S_alloc | apply Kd.S_drewN | apply Kd.S_drew)); exact HO141.out))) (below_size (by repeat (first | (with_reducible first | exact HB.out | apply below_alloc | apply pw_below_drewN | apply below_drew1) | exact HB.out)))); have n2_ := Aside0.mk (below_step (by repeat (first | (with_reducible first | exact HB.out | apply below_alloc | apply pw_below_drewN | apply below_drew1) | exact HB.out)) hb); clear HO141; clear HB; have HO141 := n0_; have HO145 := n1_; have HB := n2_; clear n0_ n1_ n2_; (try clear hb); (try clear hb2); (try clear hk); (try clear hi); (try clear ho0)) | ((with_reducible refine gate_callee (f := 13) rfl ?_); refine goesL_ (some 18) rfl rfl Try.func13 (by kernel_rfl) rfl #[.int .i64 1, .int .i64 513] rfl (by (try simp only [List.map_toArray, List.map_cons, List.map_nil]); first | done | rfl | (simp only [tb_wrap8]; done) | (simp only [tb_wrap8]; rfl) | (simp only [List.length_drop, List.length_take]; rfl)) ?_; (with_reducible refine (matrix_Vandermonde.calls k 1 513 t146 t147 _ A3.out).mono ?_); rintro e w7 ⟨v148, rfl, ho0, hb⟩; refine ⟨_, rfl, ?_⟩; have n0_ := Aside0.mk (Kd.S_elder' (by (with_reducible repeat (first | apply Kd.S_alloc | apply Kd.S_drewN | apply Kd.S_drew)); exact HO141.out) (Kd.S_base ho0) hb); have n1_ := Aside0.mk (Kd.S_elder' (by (with_reducible repeat (first | apply Kd.S_alloc | apply Kd.S_drewN | apply Kd.S_drew)); exact HO145.out) (Kd.S_base ho0) hb); have n2_ := Aside0.mk (Kd.S_lower (Kd.S_new' (Kd.S_new' ho0 (Kd.S_lt (by (with_reducible repeat (first | apply Kd.S_alloc | apply Kd.S_drewN | apply Kd.S_drew)); exact HO141.out))) (Kd.S_lt (by (with_reducible repeat (first | apply Kd.S_alloc | apply Kd.S_drewN | apply Kd.S_drew)); exact HO145.out))) (below_size (by repeat (first | (with_reducible first | exact HB.out | apply below_alloc | apply pw_below_drewN | apply below_drew1) | exact HB.out)))); have n3_ := Aside0.mk (below_step (by repeat (first | (with_reducible first | exact HB.out | apply below_alloc | apply pw_below_drewN | apply below_drew1) | exact HB.out)) hb); clear HO141; clear HO145; clear HB; have HO141 := n0_; have HO145 := n1_; have HO149 := n2_; have HB := n3_; clear n0_ n1_ n2_ n3_; (try clear hb); (try clear hb2); (try clear hk); (try clear hi); (try clear ho0)))
  (try simp only [Act.put, List.setIfInBounds_toArray, List.set_cons_zero, List.set_cons_succ])
  go_cut [50] (fun v50 wc => ∃ (kq : Nat) (x50_3 : Bool), v50 = .bool x50_3 ∧ Aside0 (culletlaw10_MatrixNames.j0 kq x50_3 = some r) ∧ Aside0 (kq ≤ k) ∧ Aside0 (Below w.heap.size w wc))
  case first =>
    have H := HC4.out
    clear HC4
    by_cases c8 : t139 = 0
    · rw [if_pos c8] at H
      have c8b0 : (t139 == 0) = true := beq_iff_eq.mpr c8
      have c8b1 : (t139 != 0) = false := bne_eq_false_iff_eq.mpr c8
      clear c8
      (first | rw [c8b0] | (simp only [i64_w, i32_w]; rw [c8b0]) | skip)
      by_cases c9 : t143 = 100
      · rw [if_pos c9] at H
        have c9b0 : (t143 == 100) = true := beq_iff_eq.mpr c9
        have c9b1 : (t143 != 100) = false := bne_eq_false_iff_eq.mpr c9
        clear c9
        by_cases c10 : t147 = 100
        · rw [if_pos c10] at H
          have c10b0 : (t147 == 100) = true := beq_iff_eq.mpr c10
          have c10b1 : (t147 != 100) = false := bne_eq_false_iff_eq.mpr c10
          clear c10
          by_cases c11 : (t138.length : Int) = 256
          · rw [if_pos c11] at H
            have c11b0 : ((t138.length : Int) == 256) = true := beq_iff_eq.mpr c11
            have c11b1 : ((t138.length : Int) != 256) = false := bne_eq_false_iff_eq.mpr c11
            clear c11
            by_cases c12 : (t142.length : Int) = 0
            · rw [if_pos c12] at H
              have c12b0 : ((t142.length : Int) == 0) = true := beq_iff_eq.mpr c12
              have c12b1 : ((t142.length : Int) != 0) = false := bne_eq_false_iff_eq.mpr c12
              clear c12
              by_cases c13 : (t146.length : Int) = 0
              · rw [if_pos c13] at H
                have c13b0 : ((t146.length : Int) == 0) = true := beq_iff_eq.mpr c13
                have c13b1 : ((t146.length : Int) != 0) = false := bne_eq_false_iff_eq.mpr c13
                clear c13
                replace H := Option.bind_eq_some_iff.mp H
                obtain ⟨t150, A140, H⟩ := H
                replace H : (culletlaw10_MatrixNames.j0 k (t150 != 0)) = some r := H
                have A14 := Aside0.mk A140
                clear A140
                have H' := Aside0.mk H
                clear H
                obtain ⟨Ao15, co15, eo15⟩ := Kd.S_slice HO141.out
                subst eo15
                obtain ⟨Ao16, co16, eo16⟩ := Kd.S_slice HO145.out
                subst eo16
                obtain ⟨Ao17, co17, eo17⟩ := Kd.S_slice HO149.out
                subst eo17
                go_wp2_with (first | (go_at_call 14; (with_reducible refine (matrix_Check.calls k _ _ t138 t150 _ ?side1 ?side2 A14.out).mono ?_); (case side1 => repeat (first | exact (Kd.S_reads' HO141.out).2.2 | (with_reducible refine Kd.C_alloc ?_ _) | (with_reducible refine Kd.C_drewN ?_ _) | (with_reducible refine Kd.C_drew ?_))); (case side2 => exact (Kd.S_reads' HO141.out).2.1); rintro e w' ⟨rfl, ⟨nd, rfl⟩⟩))
                go_meet
                case rel => exact ⟨_, ((t150 != 0)), (by first | rfl | (simp; done) | (simp [*]; done)), H', ⟨by first | omega | exact Nat.le_refl _⟩, ⟨by repeat (first | (with_reducible first | exact HB.out | apply below_alloc | apply pw_below_drewN | apply below_drew1) | exact HB.out)⟩⟩
              · rw [if_neg c13] at H
                have c13b0 : ((t146.length : Int) == 0) = false := beq_eq_false_iff_ne.mpr c13
                have c13b1 : ((t146.length : Int) != 0) = true := bne_iff_ne.mpr c13
                have c13b2 : ¬ (t146 = []) := fun h_ => c13 (by rw [h_]; rfl)
                have H' := Aside0.mk H
                clear H
                obtain ⟨Ao18, co18, eo18⟩ := Kd.S_slice HO141.out
                subst eo18
                obtain ⟨Ao19, co19, eo19⟩ := Kd.S_slice HO145.out
                subst eo19
                obtain ⟨Ao20, co20, eo20⟩ := Kd.S_slice HO149.out
                subst eo20
                go_wp2
                go_meet
                case rel => exact ⟨_, (true), (by first | rfl | (simp; done) | (simp [*]; done)), H', ⟨by first | omega | exact Nat.le_refl _⟩, ⟨by repeat (first | (with_reducible first | exact HB.out | apply below_alloc | apply pw_below_drewN | apply below_drew1) | exact HB.out)⟩⟩
            · rw [if_neg c12] at H
              have c12b0 : ((t142.length : Int) == 0) = false := beq_eq_false_iff_ne.mpr c12
              have c12b1 : ((t142.length : Int) != 0) = true := bne_iff_ne.mpr c12
              have c12b2 : ¬ (t142 = []) := fun h_ => c12 (by rw [h_]; rfl)
              have H' := Aside0.mk H
              clear H
              obtain ⟨Ao21, co21, eo21⟩ := Kd.S_slice HO141.out
              subst eo21
              obtain ⟨Ao22, co22, eo22⟩ := Kd.S_slice HO145.out
              subst eo22
              go_wp2
              go_meet
              case rel => exact ⟨_, (true), (by first | rfl | (simp; done) | (simp [*]; done)), H', ⟨by first | omega | exact Nat.le_refl _⟩, ⟨by repeat (first | (with_reducible first | exact HB.out | apply below_alloc | apply pw_below_drewN | apply below_drew1) | exact HB.out)⟩⟩
          · rw [if_neg c11] at H
            have c11b0 : ((t138.length : Int) == 256) = false := beq_eq_false_iff_ne.mpr c11
            have c11b1 : ((t138.length : Int) != 256) = true := bne_iff_ne.mpr c11
            have H' := Aside0.mk H
            clear H
            obtain ⟨Ao23, co23, eo23⟩ := Kd.S_slice HO141.out
            subst eo23
            go_wp2
            go_meet
            case rel => exact ⟨_, (true), (by first | rfl | (simp; done) | (simp [*]; done)), H', ⟨by first | omega | exact Nat.le_refl _⟩, ⟨by repeat (first | (with_reducible first | exact HB.out | apply below_alloc | apply pw_below_drewN | apply below_drew1) | exact HB.out)⟩⟩
        · rw [if_neg c10] at H
          have c10b0 : (t147 == 100) = false := beq_eq_false_iff_ne.mpr c10
          have c10b1 : (t147 != 100) = true := bne_iff_ne.mpr c10
          have H' := Aside0.mk H
          clear H
          go_wp2
          go_meet
          case rel => exact ⟨_, (true), (by first | rfl | (simp; done) | (simp [*]; done)), H', ⟨by first | omega | exact Nat.le_refl _⟩, ⟨by repeat (first | (with_reducible first | exact HB.out | apply below_alloc | apply pw_below_drewN | apply below_drew1) | exact HB.out)⟩⟩
      · rw [if_neg c9] at H
        have c9b0 : (t143 == 100) = false := beq_eq_false_iff_ne.mpr c9
        have c9b1 : (t143 != 100) = true := bne_iff_ne.mpr c9
        have H' := Aside0.mk H
        clear H
        go_wp2
        go_meet
        case rel => exact ⟨_, (true), (by first | rfl | (simp; done) | (simp [*]; done)), H', ⟨by first | omega | exact Nat.le_refl _⟩, ⟨by repeat (first | (with_reducible first | exact HB.out | apply below_alloc | apply pw_below_drewN | apply below_drew1) | exact HB.out)⟩⟩
    · rw [if_neg c8] at H
      have c8b0 : (t139 == 0) = false := beq_eq_false_iff_ne.mpr c8
      have c8b1 : (t139 != 0) = true := bne_iff_ne.mpr c8
      (first | rw [c8b0] | (simp only [i64_w, i32_w]; rw [c8b0]) | skip)
      have H' := Aside0.mk H
      clear H
      go_wp2
      go_meet
      case rel => exact ⟨_, (true), (by first | rfl | (simp; done) | (simp [*]; done)), H', ⟨by first | omega | exact Nat.le_refl _⟩, ⟨by repeat (first | (with_reducible first | exact HB.out | apply below_alloc | apply pw_below_drewN | apply below_drew1) | exact HB.out)⟩⟩
  case rest =>
    clear HC4
    try clear c1
    try clear p2
    try clear c3
    try clear c8
    try clear c8b0
    try clear c8b1
    try clear p8
    try clear c9
    try clear c9b0
    try clear c9b1
    try clear c10
    try clear c10b0
    try clear c10b1
    try clear c11
    try clear c11b0
    try clear c11b1
    try clear c12
    try clear c12b0
    try clear c12b1
    try clear c12b2
    try clear c13
    try clear c13b0
    try clear c13b1
    try clear c13b2
    obtain ⟨kq, x50_3, rfl, HA, HJ3, HB⟩ := hcut
    cases kq with
    | zero => exact absurd HA.out (by simp [culletlaw10_MatrixNames.j0])
    | succ kj3 =>
      have H := HA.out
      clear HA
      simp only [culletlaw10_MatrixNames.j0] at H
      by_cases c24 : x50_3 = true
      · subst c24
        have H1 : (some false) = some r := by rw [if_pos rfl] at H; exact H
        clear H
        have H := H1
        clear H1
        obtain rfl := Option.some.inj H
        go_wp2
        go_ret
        exact ⟨by first | rfl | (simp [errW_none, errW_some] <;> rfl) | (simp [*, errW_none, errW_some] <;> rfl), by repeat (first | (with_reducible first | exact HB.out | apply below_alloc | apply pw_below_drewN | apply below_drew1) | exact HB.out)⟩
      · replace c24 := Bool.eq_false_iff.mpr c24
        subst c24
        have H1 : ((matrix_Cauchy.f kj3 255 1).bind fun bt151 => ((matrix_Cauchy.f kj3 255 2).bind fun bt155 => (if bt151.2 = 0 then (if bt155.2 = 100 then (if (bt151.1.length : Int) = 255 then (some ((bt155.1.length : Int) == 0)) else (some false)) else (some false)) else (some false)))) = some r := by rw [if_neg (show ¬ (false = true) by decide)] at H; exact H
        clear H
        have H := H1
        clear H1
        replace H := Option.bind_eq_some_iff.mp H
        obtain ⟨⟨t151, t152⟩, A250, H⟩ := H
        replace H : ((matrix_Cauchy.f kj3 255 2).bind fun bt155 => (if t152 = 0 then (if bt155.2 = 100 then (if (t151.length : Int) = 255 then (some ((bt155.1.length : Int) == 0)) else (some false)) else (some false)) else (some false))) = some r := H
        have A25 := Aside0.mk A250
        clear A250
        replace H := Option.bind_eq_some_iff.mp H
        obtain ⟨⟨t155, t156⟩, A260, H⟩ := H
        replace H : (if t152 = 0 then (if t156 = 100 then (if (t151.length : Int) = 255 then (some ((t155.length : Int) == 0)) else (some false)) else (some false)) else (some false)) = some r := H
        have A26 := Aside0.mk A260
        clear A260
        by_cases c27 : t152 = 0
        · rw [if_pos c27] at H
          have c27b0 : (t152 == 0) = true := beq_iff_eq.mpr c27
          have c27b1 : (t152 != 0) = false := bne_eq_false_iff_eq.mpr c27
          clear c27
          by_cases c28 : t156 = 100
          · rw [if_pos c28] at H
            have c28b0 : (t156 == 100) = true := beq_iff_eq.mpr c28
            have c28b1 : (t156 != 100) = false := bne_eq_false_iff_eq.mpr c28
            clear c28
            by_cases c29 : (t151.length : Int) = 255
            · rw [if_pos c29] at H
              have c29b0 : ((t151.length : Int) == 255) = true := beq_iff_eq.mpr c29
              have c29b1 : ((t151.length : Int) != 255) = false := bne_eq_false_iff_eq.mpr c29
              clear c29
              obtain rfl := Option.some.inj H
              go_wp2_with (first | ((with_reducible refine gate_callee (f := 15) rfl ?_); refine goesL_ (some 52) rfl rfl Try.func15 (by kernel_rfl) rfl #[.int .i64 255, .int .i64 1] rfl (by (try simp only [List.map_toArray, List.map_cons, List.map_nil]); first | done | rfl | (simp only [tb_wrap8]; done) | (simp only [tb_wrap8]; rfl) | (simp only [List.length_drop, List.length_take]; rfl)) ?_; (with_reducible refine (matrix_Cauchy.calls kj3 255 1 t151 t152 _ A25.out).mono ?_); rintro e w30 ⟨v153, rfl, ho0, hb⟩; refine ⟨_, rfl, ?_⟩; have n0_ := Aside0.mk (Kd.S_lower ho0 (below_size (by repeat (first | (with_reducible first | exact HB.out | apply below_alloc | apply pw_below_drewN | apply below_drew1) | exact HB.out)))); have n1_ := Aside0.mk (below_step (by repeat (first | (with_reducible first | exact HB.out | apply below_alloc | apply pw_below_drewN | apply below_drew1) | exact HB.out)) hb); clear HB; have HO154 := n0_; have HB := n1_; clear n0_ n1_; (try clear hb); (try clear hb2); (try clear hk); (try clear hi); (try clear ho0)) | ((with_reducible refine gate_callee (f := 15) rfl ?_); refine goesL_ (some 56) rfl rfl Try.func15 (by kernel_rfl) rfl #[.int .i64 255, .int .i64 2] rfl (by (try simp only [List.map_toArray, List.map_cons, List.map_nil]); first | done | rfl | (simp only [tb_wrap8]; done) | (simp only [tb_wrap8]; rfl) | (simp only [List.length_drop, List.length_take]; rfl)) ?_; (with_reducible refine (matrix_Cauchy.calls kj3 255 2 t155 t156 _ A26.out).mono ?_); rintro e w31 ⟨v157, rfl, ho0, hb⟩; refine ⟨_, rfl, ?_⟩; have n0_ := Aside0.mk (Kd.S_elder' (by (with_reducible repeat (first | apply Kd.S_alloc | apply Kd.S_drewN | apply Kd.S_drew)); exact HO154.out) (Kd.S_base ho0) hb); have n1_ := Aside0.mk (Kd.S_lower (Kd.S_new' ho0 (Kd.S_lt (by (with_reducible repeat (first | apply Kd.S_alloc | apply Kd.S_drewN | apply Kd.S_drew)); exact HO154.out))) (below_size (by repeat (first | (with_reducible first | exact HB.out | apply below_alloc | apply pw_below_drewN | apply below_drew1) | exact HB.out)))); have n2_ := Aside0.mk (below_step (by repeat (first | (with_reducible first | exact HB.out | apply below_alloc | apply pw_below_drewN | apply below_drew1) | exact HB.out)) hb); clear HO154; clear HB; have HO154 := n0_; have HO158 := n1_; have HB := n2_; clear n0_ n1_ n2_; (try clear hb); (try clear hb2); (try clear hk); (try clear hi); (try clear ho0); obtain ⟨Ao32, co32, eo32⟩ := Kd.S_slice HO154.out; subst eo32; obtain ⟨Ao33, co33, eo33⟩ := Kd.S_slice HO158.out; subst eo33))
              go_ret
              exact ⟨by first | rfl | (simp [errW_none, errW_some] <;> rfl) | (simp [*, errW_none, errW_some] <;> rfl), by repeat (first | (with_reducible first | exact HB.out | apply below_alloc | apply pw_below_drewN | apply below_drew1) | exact HB.out)⟩
            · rw [if_neg c29] at H
              have c29b0 : ((t151.length : Int) == 255) = false := beq_eq_false_iff_ne.mpr c29
              have c29b1 : ((t151.length : Int) != 255) = true := bne_iff_ne.mpr c29
              obtain rfl := Option.some.inj H
              go_wp2_with (first | ((with_reducible refine gate_callee (f := 15) rfl ?_); refine goesL_ (some 52) rfl rfl Try.func15 (by kernel_rfl) rfl #[.int .i64 255, .int .i64 1] rfl (by (try simp only [List.map_toArray, List.map_cons, List.map_nil]); first | done | rfl | (simp only [tb_wrap8]; done) | (simp only [tb_wrap8]; rfl) | (simp only [List.length_drop, List.length_take]; rfl)) ?_; (with_reducible refine (matrix_Cauchy.calls kj3 255 1 t151 t152 _ A25.out).mono ?_); rintro e w34 ⟨v153, rfl, ho0, hb⟩; refine ⟨_, rfl, ?_⟩; have n0_ := Aside0.mk (Kd.S_lower ho0 (below_size (by repeat (first | (with_reducible first | exact HB.out | apply below_alloc | apply pw_below_drewN | apply below_drew1) | exact HB.out)))); have n1_ := Aside0.mk (below_step (by repeat (first | (with_reducible first | exact HB.out | apply below_alloc | apply pw_below_drewN | apply below_drew1) | exact HB.out)) hb); clear HB; have HO154 := n0_; have HB := n1_; clear n0_ n1_; (try clear hb); (try clear hb2); (try clear hk); (try clear hi); (try clear ho0)) | ((with_reducible refine gate_callee (f := 15) rfl ?_); refine goesL_ (some 56) rfl rfl Try.func15 (by kernel_rfl) rfl #[.int .i64 255, .int .i64 2] rfl (by (try simp only [List.map_toArray, List.map_cons, List.map_nil]); first | done | rfl | (simp only [tb_wrap8]; done) | (simp only [tb_wrap8]; rfl) | (simp only [List.length_drop, List.length_take]; rfl)) ?_; (with_reducible refine (matrix_Cauchy.calls kj3 255 2 t155 t156 _ A26.out).mono ?_); rintro e w35 ⟨v157, rfl, ho0, hb⟩; refine ⟨_, rfl, ?_⟩; have n0_ := Aside0.mk (Kd.S_elder' (by (with_reducible repeat (first | apply Kd.S_alloc | apply Kd.S_drewN | apply Kd.S_drew)); exact HO154.out) (Kd.S_base ho0) hb); have n1_ := Aside0.mk (Kd.S_lower (Kd.S_new' ho0 (Kd.S_lt (by (with_reducible repeat (first | apply Kd.S_alloc | apply Kd.S_drewN | apply Kd.S_drew)); exact HO154.out))) (below_size (by repeat (first | (with_reducible first | exact HB.out | apply below_alloc | apply pw_below_drewN | apply below_drew1) | exact HB.out)))); have n2_ := Aside0.mk (below_step (by repeat (first | (with_reducible first | exact HB.out | apply below_alloc | apply pw_below_drewN | apply below_drew1) | exact HB.out)) hb); clear HO154; clear HB; have HO154 := n0_; have HO158 := n1_; have HB := n2_; clear n0_ n1_ n2_; (try clear hb); (try clear hb2); (try clear hk); (try clear hi); (try clear ho0); obtain ⟨Ao36, co36, eo36⟩ := Kd.S_slice HO154.out; subst eo36))
              go_ret
              exact ⟨by first | rfl | (simp [errW_none, errW_some] <;> rfl) | (simp [*, errW_none, errW_some] <;> rfl), by repeat (first | (with_reducible first | exact HB.out | apply below_alloc | apply pw_below_drewN | apply below_drew1) | exact HB.out)⟩
          · rw [if_neg c28] at H
            have c28b0 : (t156 == 100) = false := beq_eq_false_iff_ne.mpr c28
            have c28b1 : (t156 != 100) = true := bne_iff_ne.mpr c28
            obtain rfl := Option.some.inj H
            go_wp2_with (first | ((with_reducible refine gate_callee (f := 15) rfl ?_); refine goesL_ (some 52) rfl rfl Try.func15 (by kernel_rfl) rfl #[.int .i64 255, .int .i64 1] rfl (by (try simp only [List.map_toArray, List.map_cons, List.map_nil]); first | done | rfl | (simp only [tb_wrap8]; done) | (simp only [tb_wrap8]; rfl) | (simp only [List.length_drop, List.length_take]; rfl)) ?_; (with_reducible refine (matrix_Cauchy.calls kj3 255 1 t151 t152 _ A25.out).mono ?_); rintro e w37 ⟨v153, rfl, ho0, hb⟩; refine ⟨_, rfl, ?_⟩; have n0_ := Aside0.mk (Kd.S_lower ho0 (below_size (by repeat (first | (with_reducible first | exact HB.out | apply below_alloc | apply pw_below_drewN | apply below_drew1) | exact HB.out)))); have n1_ := Aside0.mk (below_step (by repeat (first | (with_reducible first | exact HB.out | apply below_alloc | apply pw_below_drewN | apply below_drew1) | exact HB.out)) hb); clear HB; have HO154 := n0_; have HB := n1_; clear n0_ n1_; (try clear hb); (try clear hb2); (try clear hk); (try clear hi); (try clear ho0)) | ((with_reducible refine gate_callee (f := 15) rfl ?_); refine goesL_ (some 56) rfl rfl Try.func15 (by kernel_rfl) rfl #[.int .i64 255, .int .i64 2] rfl (by (try simp only [List.map_toArray, List.map_cons, List.map_nil]); first | done | rfl | (simp only [tb_wrap8]; done) | (simp only [tb_wrap8]; rfl) | (simp only [List.length_drop, List.length_take]; rfl)) ?_; (with_reducible refine (matrix_Cauchy.calls kj3 255 2 t155 t156 _ A26.out).mono ?_); rintro e w38 ⟨v157, rfl, ho0, hb⟩; refine ⟨_, rfl, ?_⟩; have n0_ := Aside0.mk (Kd.S_elder' (by (with_reducible repeat (first | apply Kd.S_alloc | apply Kd.S_drewN | apply Kd.S_drew)); exact HO154.out) (Kd.S_base ho0) hb); have n1_ := Aside0.mk (Kd.S_lower (Kd.S_new' ho0 (Kd.S_lt (by (with_reducible repeat (first | apply Kd.S_alloc | apply Kd.S_drewN | apply Kd.S_drew)); exact HO154.out))) (below_size (by repeat (first | (with_reducible first | exact HB.out | apply below_alloc | apply pw_below_drewN | apply below_drew1) | exact HB.out)))); have n2_ := Aside0.mk (below_step (by repeat (first | (with_reducible first | exact HB.out | apply below_alloc | apply pw_below_drewN | apply below_drew1) | exact HB.out)) hb); clear HO154; clear HB; have HO154 := n0_; have HO158 := n1_; have HB := n2_; clear n0_ n1_ n2_; (try clear hb); (try clear hb2); (try clear hk); (try clear hi); (try clear ho0)))
            go_ret
            exact ⟨by first | rfl | (simp [errW_none, errW_some] <;> rfl) | (simp [*, errW_none, errW_some] <;> rfl), by repeat (first | (with_reducible first | exact HB.out | apply below_alloc | apply pw_below_drewN | apply below_drew1) | exact HB.out)⟩
        · rw [if_neg c27] at H
          have c27b0 : (t152 == 0) = false := beq_eq_false_iff_ne.mpr c27
          have c27b1 : (t152 != 0) = true := bne_iff_ne.mpr c27
          obtain rfl := Option.some.inj H
          go_wp2_with (first | ((with_reducible refine gate_callee (f := 15) rfl ?_); refine goesL_ (some 52) rfl rfl Try.func15 (by kernel_rfl) rfl #[.int .i64 255, .int .i64 1] rfl (by (try simp only [List.map_toArray, List.map_cons, List.map_nil]); first | done | rfl | (simp only [tb_wrap8]; done) | (simp only [tb_wrap8]; rfl) | (simp only [List.length_drop, List.length_take]; rfl)) ?_; (with_reducible refine (matrix_Cauchy.calls kj3 255 1 t151 t152 _ A25.out).mono ?_); rintro e w39 ⟨v153, rfl, ho0, hb⟩; refine ⟨_, rfl, ?_⟩; have n0_ := Aside0.mk (Kd.S_lower ho0 (below_size (by repeat (first | (with_reducible first | exact HB.out | apply below_alloc | apply pw_below_drewN | apply below_drew1) | exact HB.out)))); have n1_ := Aside0.mk (below_step (by repeat (first | (with_reducible first | exact HB.out | apply below_alloc | apply pw_below_drewN | apply below_drew1) | exact HB.out)) hb); clear HB; have HO154 := n0_; have HB := n1_; clear n0_ n1_; (try clear hb); (try clear hb2); (try clear hk); (try clear hi); (try clear ho0)) | ((with_reducible refine gate_callee (f := 15) rfl ?_); refine goesL_ (some 56) rfl rfl Try.func15 (by kernel_rfl) rfl #[.int .i64 255, .int .i64 2] rfl (by (try simp only [List.map_toArray, List.map_cons, List.map_nil]); first | done | rfl | (simp only [tb_wrap8]; done) | (simp only [tb_wrap8]; rfl) | (simp only [List.length_drop, List.length_take]; rfl)) ?_; (with_reducible refine (matrix_Cauchy.calls kj3 255 2 t155 t156 _ A26.out).mono ?_); rintro e w40 ⟨v157, rfl, ho0, hb⟩; refine ⟨_, rfl, ?_⟩; have n0_ := Aside0.mk (Kd.S_elder' (by (with_reducible repeat (first | apply Kd.S_alloc | apply Kd.S_drewN | apply Kd.S_drew)); exact HO154.out) (Kd.S_base ho0) hb); have n1_ := Aside0.mk (Kd.S_lower (Kd.S_new' ho0 (Kd.S_lt (by (with_reducible repeat (first | apply Kd.S_alloc | apply Kd.S_drewN | apply Kd.S_drew)); exact HO154.out))) (below_size (by repeat (first | (with_reducible first | exact HB.out | apply below_alloc | apply pw_below_drewN | apply below_drew1) | exact HB.out)))); have n2_ := Aside0.mk (below_step (by repeat (first | (with_reducible first | exact HB.out | apply below_alloc | apply pw_below_drewN | apply below_drew1) | exact HB.out)) hb); clear HO154; clear HB; have HO154 := n0_; have HO158 := n1_; have HB := n2_; clear n0_ n1_ n2_; (try clear hb); (try clear hb2); (try clear hk); (try clear hi); (try clear ho0)))
          go_ret
          exact ⟨by first | rfl | (simp [errW_none, errW_some] <;> rfl) | (simp [*, errW_none, errW_some] <;> rfl), by repeat (first | (with_reducible first | exact HB.out | apply below_alloc | apply pw_below_drewN | apply below_drew1) | exact HB.out)⟩

/-- THE ONE PURE STATEMENT of culletlaw10_MatrixNames: yours. -/
def culletlaw10_MatrixNames.Pure : Prop := ∃ k, culletlaw10_MatrixNames.f k  = some true
theorem culletlaw10_MatrixNames.walk (P : culletlaw10_MatrixNames.Pure)  (w : World)  :
    Calls Try.prog 3 #[] w fun e w' => e = .returned (.bool true) ∧ Below w.heap.size w w' := by
  obtain ⟨k, h⟩ := P  
  refine (culletlaw10_MatrixNames.calls k  true w h).mono ?_
  rintro e w' ⟨rfl, hd⟩
  exact ⟨rfl, hd⟩

end Go.Proofs.Ytidogckochpbgaa.Q
