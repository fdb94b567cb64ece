-- Printed for this claim by mp.py, a program of its prover, through the kit's print. Lean checks it.
import Derived.Test.YtilacemjflomfaaQx0
import Derived.Test.YtilacemjflomfaaQx1
import Derived.Test.YtilacemjflomfaaQx4
namespace Go.Proofs.Ytilacemjflomfaa.Q
open Go.RowKit Go.Proofs.YtilacemjflomfaaW.PrintWords Go.Proofs.YtilacemjflomfaaW.PrintLast Go.Proofs.YtilacemjflomfaaW.PrintMore
attribute [local go_sem] max2_int min2_int max_two min_two max_three min_three max_four min_four   -- for this text's walks alone
set_option linter.unusedVariables false
set_option linter.unusedSimpArgs false

/-! ### ring_mulMod: function 28 -/
def ring_mulMod.l0 : Nat → Int → Int → Int → Int → Int → Int → Option (Int)
  | 0, _, _, _, _, _, _ => none
  | k + 1, x0, x1, x2, x7, x8, x9 => if x9 ≥ 0 then (if 0 ≤ x7 then (if (Go.bits .and .u64 (shr .u64 (IntKind.u64.wrap (x8 * 2)) x7) 1) = 1 then (if 0 ≤ x9 then (if (Go.bits .and .u64 (shr .u64 x1 x9) 1) = 1 then (ring_mulMod.l0 k x0 x1 x2 x7 (Go.bits .xor .u64 (Go.bits .xor .u64 (IntKind.u64.wrap (x8 * 2)) x2) x0) (wrap64 (x9 - 1))) else (ring_mulMod.l0 k x0 x1 x2 x7 (Go.bits .xor .u64 (IntKind.u64.wrap (x8 * 2)) x2) (wrap64 (x9 - 1)))) else (none)) else (if 0 ≤ x9 then (if (Go.bits .and .u64 (shr .u64 x1 x9) 1) = 1 then (ring_mulMod.l0 k x0 x1 x2 x7 (Go.bits .xor .u64 (IntKind.u64.wrap (x8 * 2)) x0) (wrap64 (x9 - 1))) else (ring_mulMod.l0 k x0 x1 x2 x7 (IntKind.u64.wrap (x8 * 2)) (wrap64 (x9 - 1)))) else (none))) else (none)) else (some x8)
def ring_mulMod.f (k : Nat) (a0 : Int) (a1 : Int) (a2 : Int) : Option (Int) := (ring_divMod.f k a0 a2).bind fun bt144 => ((ring_divMod.f k a1 a2).bind fun bt146 => ((ring_Degree.f a2).bind fun t148 => (ring_mulMod.l0 k bt144.2 bt146.2 a2 t148 0 (wrap64 (t148 - 1)))))
theorem ring_mulMod.mono_l : ∀ k, (∀ y0 y1 y2 y3 y4 y5, LeO (ring_mulMod.l0 k y0 y1 y2 y3 y4 y5) (ring_mulMod.l0 (k + 1) y0 y1 y2 y3 y4 y5))
  | 0 => fun _ _ _ _ _ _ r h => by simp [ring_mulMod.l0] at h
  | k + 1 => by
    have ih0 := ring_mulMod.mono_l k
    · intro y0 y1 y2 y3 y4 y5
      unfold ring_mulMod.l0
      repeat' first
      | (with_reducible exact ih0 _ _ _ _ _ _)
      | (with_reducible exact ring_divMod.mono _ _ _)
      | (with_reducible exact LeO.refl _)
      | (with_reducible exact LeO.none _)
      | (with_reducible refine LeO.ite ?_ ?_)
      | (with_reducible refine LeO.bind ?_ (fun _ => ?_))
      | exact ih0 _ _ _ _ _ _
      | exact ring_divMod.mono _ _ _
      | exact LeO.none _
      | refine LeO.ite ?_ ?_
      | refine LeO.bind ?_ (fun _ => ?_)
theorem ring_mulMod.mono : ∀ a0 a1 a2 k, LeO (ring_mulMod.f k a0 a1 a2) (ring_mulMod.f (k + 1) a0 a1 a2) := by
  intro a0 a1 a2 k
  have ih0 := ring_mulMod.mono_l k
  unfold ring_mulMod.f
  repeat' first
      | (with_reducible exact ih0 _ _ _ _ _ _)
      | (with_reducible exact ring_divMod.mono _ _ _)
      | (with_reducible exact LeO.refl _)
      | (with_reducible exact LeO.none _)
      | (with_reducible refine LeO.ite ?_ ?_)
      | (with_reducible refine LeO.bind ?_ (fun _ => ?_))
      | exact ih0 _ _ _ _ _ _
      | exact ring_divMod.mono _ _ _
      | exact LeO.none _
      | refine LeO.ite ?_ ?_
      | refine LeO.bind ?_ (fun _ => ?_)
set_option maxHeartbeats 8000000 in
set_option maxRecDepth 100000 in
theorem ring_mulMod.calls (k : Nat) (a0 : Int) (a1 : Int) (a2 : Int) (r : Int) (w : World) (h : ring_mulMod.f k a0 a1 a2 = some r) :
    Calls Try.prog 28 #[.int .u64 a0, .int .u64 a1, .int .u64 a2] w fun e w' => e = .returned (.int .u64 r) ∧ Drawn0 w w' := by
  have H : ((ring_divMod.f k a0 a2).bind fun bt144 => ((ring_divMod.f k a1 a2).bind fun bt146 => ((ring_Degree.f a2).bind fun t148 => (ring_mulMod.l0 k bt144.2 bt146.2 a2 t148 0 (wrap64 (t148 - 1)))))) = some r := h
  clear h
  replace H := Option.bind_eq_some_iff.mp H
  obtain ⟨⟨t144, t145⟩, A40, H⟩ := H
  replace H : ((ring_divMod.f k a1 a2).bind fun bt146 => ((ring_Degree.f a2).bind fun t148 => (ring_mulMod.l0 k t145 bt146.2 a2 t148 0 (wrap64 (t148 - 1))))) = some r := H
  have A4 := Aside0.mk A40
  clear A40
  replace H := Option.bind_eq_some_iff.mp H
  obtain ⟨⟨t146, t147⟩, A50, H⟩ := H
  replace H : ((ring_Degree.f a2).bind fun t148 => (ring_mulMod.l0 k t145 t147 a2 t148 0 (wrap64 (t148 - 1)))) = some r := H
  have A5 := Aside0.mk A50
  clear A50
  replace H := Option.bind_eq_some_iff.mp H
  obtain ⟨t148, A60, H⟩ := H
  replace H : (ring_mulMod.l0 k t145 t147 a2 t148 0 (wrap64 (t148 - 1))) = some r := H
  have A6 := Aside0.mk A60
  clear A60
  have H' := Aside0.mk H
  clear H
  go_enter Try.func28, Try.ntmps28
  go_wp2_with (first | ((with_reducible refine gate_callee (f := 24) rfl ?_); refine goesL_ (some 13) rfl rfl Try.func24 (by kernel_rfl) rfl #[.int .u64 a0, .int .u64 a2] rfl (by (try simp only [List.map_toArray, List.map_cons, List.map_nil]); first | done | rfl | (simp only [List.length_drop, List.length_take]; rfl)) ?_; (with_reducible refine (ring_divMod.calls k a0 a2 t144 t145 _ A4.out).mono ?_); rintro e w' ⟨rfl, ⟨nd, rfl⟩⟩; refine ⟨_, rfl, ?_⟩) | ((with_reducible refine gate_callee (f := 24) rfl ?_); refine goesL_ (some 19) rfl rfl Try.func24 (by kernel_rfl) rfl #[.int .u64 a1, .int .u64 a2] rfl (by (try simp only [List.map_toArray, List.map_cons, List.map_nil]); first | done | rfl | (simp only [List.length_drop, List.length_take]; rfl)) ?_; (with_reducible refine (ring_divMod.calls k a1 a2 t146 t147 _ A5.out).mono ?_); rintro e w' ⟨rfl, ⟨nd, rfl⟩⟩; refine ⟨_, rfl, ?_⟩) | ((with_reducible refine gate_callee (f := 26) rfl ?_); refine goesL_ (some 23) rfl rfl Try.func26 (by kernel_rfl) rfl #[.int .u64 a2] rfl (by (try simp only [List.map_toArray, List.map_cons, List.map_nil]); first | done | rfl | (simp only [List.length_drop, List.length_take]; rfl)) ?_; (with_reducible refine (ring_Degree.calls a2 t148 _ A6.out).mono ?_); rintro e w' ⟨rfl, ⟨nd, rfl⟩⟩; refine ⟨_, rfl, ?_⟩))
  go_loopg [8, 9] k (fun kq v8 v9 w' => ∃ (x8_1 : Int) (x9_1 : Int), v8 = .int .u64 x8_1 ∧ v9 = .int .i64 x9_1 ∧ Aside0 (ring_mulMod.l0 kq t145 t147 a2 t148 x8_1 x9_1 = some r) ∧ Aside0 (kq ≤ k) ∧ Drawn0 w w')
  case atStart => exact ⟨(0), (wrap64 (t148 - 1)), (by first | rfl | (simp; done) | (simp [*]; done)), (by first | rfl | (simp; done) | (simp [*]; done)), H', ⟨Nat.le_refl _⟩, by repeat (first | exact Drawn0.refl _ | apply Drawn0.step)⟩
  case round =>
    clear H'
    try clear c2
    try clear p2
    try clear p6
    obtain ⟨x8_1, x9_1, rfl, rfl, HA, HK1, ⟨m1, rfl⟩⟩ := hrel
    cases gk with
    | zero => exact absurd HA.out (by simp [ring_mulMod.l0])
    | succ k1 =>
      have H := HA.out
      clear HA
      simp only [ring_mulMod.l0] at H
      by_cases c7 : x9_1 ≥ 0
      · rw [if_pos c7] at H
        have c7b0 : decide (0 ≤ x9_1) = true := decide_eq_true c7
        clear c7
        by_cases c8 : 0 ≤ t148
        · rw [if_pos c8] at H
          have c8b0 := eq_true c8
          have c8b1 : decide (0 ≤ t148) = true := decide_eq_true c8
          clear c8
          obtain ⟨ji9, hji9⟩ : ∃ j_ : Int, (shr .u64 (IntKind.u64.wrap (x8_1 * 2)) t148) = j_ := ⟨_, rfl⟩
          replace H : (if (Go.bits .and .u64 (ji9) 1) = 1 then (if 0 ≤ x9_1 then (if (Go.bits .and .u64 (shr .u64 t147 x9_1) 1) = 1 then (ring_mulMod.l0 k1 t145 t147 a2 t148 (Go.bits .xor .u64 (Go.bits .xor .u64 (IntKind.u64.wrap (x8_1 * 2)) a2) t145) (wrap64 (x9_1 - 1))) else (ring_mulMod.l0 k1 t145 t147 a2 t148 (Go.bits .xor .u64 (IntKind.u64.wrap (x8_1 * 2)) a2) (wrap64 (x9_1 - 1)))) else (none)) else (if 0 ≤ x9_1 then (if (Go.bits .and .u64 (shr .u64 t147 x9_1) 1) = 1 then (ring_mulMod.l0 k1 t145 t147 a2 t148 (Go.bits .xor .u64 (IntKind.u64.wrap (x8_1 * 2)) t145) (wrap64 (x9_1 - 1))) else (ring_mulMod.l0 k1 t145 t147 a2 t148 (IntKind.u64.wrap (x8_1 * 2)) (wrap64 (x9_1 - 1)))) else (none))) = some r := by first | (rw [hji9] at H; exact H) | (simp only [hji9] at H ⊢; exact H)
          have hji9_ : ((IntKind.u64.wrap (x8_1 * 2)) / 2 ^ min t148.toNat 64) = ji9 := hji9
          have hji9z : t148 ≤ 64 → ((IntKind.u64.wrap (x8_1 * 2)) / 2 ^ t148.toNat) = ji9 := shr_small hji9
          by_cases c10 : (Go.bits .and .u64 (ji9) 1) = 1
          · rw [if_pos c10] at H
            have c10b0 : ((Go.bits .and .u64 (ji9) 1) == 1) = true := beq_iff_eq.mpr c10
            have c10b1 : ((Go.bits .and .u64 (ji9) 1) != 1) = false := bne_eq_false_iff_eq.mpr c10
            clear c10
            by_cases c11 : 0 ≤ x9_1
            · rw [if_pos c11] at H
              have c11b0 := eq_true c11
              have c11b1 : decide (0 ≤ x9_1) = true := decide_eq_true c11
              clear c11
              obtain ⟨ji12, hji12⟩ : ∃ j_ : Int, (shr .u64 t147 x9_1) = j_ := ⟨_, rfl⟩
              replace H : (if (Go.bits .and .u64 (ji12) 1) = 1 then (ring_mulMod.l0 k1 t145 t147 a2 t148 (Go.bits .xor .u64 (Go.bits .xor .u64 (IntKind.u64.wrap (x8_1 * 2)) a2) t145) (wrap64 (x9_1 - 1))) else (ring_mulMod.l0 k1 t145 t147 a2 t148 (Go.bits .xor .u64 (IntKind.u64.wrap (x8_1 * 2)) a2) (wrap64 (x9_1 - 1)))) = some r := by first | (rw [hji12] at H; exact H) | (simp only [hji12] at H ⊢; exact H)
              have hji12_ : (t147 / 2 ^ min x9_1.toNat 64) = ji12 := hji12
              have hji12z : x9_1 ≤ 64 → (t147 / 2 ^ x9_1.toNat) = ji12 := shr_small hji12
              by_cases c13 : (Go.bits .and .u64 (ji12) 1) = 1
              · rw [if_pos c13] at H
                have c13b0 : ((Go.bits .and .u64 (ji12) 1) == 1) = true := beq_iff_eq.mpr c13
                have c13b1 : ((Go.bits .and .u64 (ji12) 1) != 1) = false := bne_eq_false_iff_eq.mpr c13
                clear c13
                have H' := Aside0.mk H
                clear H
                go_wp2
                go_roundg k1
                case measure => have := HK1.out; omega
                case rel => exact ⟨(Go.bits .xor .u64 (Go.bits .xor .u64 (IntKind.u64.wrap (x8_1 * 2)) a2) t145), (wrap64 (x9_1 - 1)), (by first | rfl | (simp; done) | (simp [*]; done)), (by first | rfl | (simp; done) | (simp [*]; done)), H', ⟨by have := HK1.out; omega⟩, by repeat (first | exact Drawn0.refl _ | apply Drawn0.step)⟩
              · rw [if_neg c13] at H
                have c13b0 : ((Go.bits .and .u64 (ji12) 1) == 1) = false := beq_eq_false_iff_ne.mpr c13
                have c13b1 : ((Go.bits .and .u64 (ji12) 1) != 1) = true := bne_iff_ne.mpr c13
                have H' := Aside0.mk H
                clear H
                go_wp2
                go_roundg k1
                case measure => have := HK1.out; omega
                case rel => exact ⟨(Go.bits .xor .u64 (IntKind.u64.wrap (x8_1 * 2)) a2), (wrap64 (x9_1 - 1)), (by first | rfl | (simp; done) | (simp [*]; done)), (by first | rfl | (simp; done) | (simp [*]; done)), H', ⟨by have := HK1.out; omega⟩, by repeat (first | exact Drawn0.refl _ | apply Drawn0.step)⟩
            · rw [if_neg c11] at H
              exact absurd H (by simp)
          · rw [if_neg c10] at H
            have c10b0 : ((Go.bits .and .u64 (ji9) 1) == 1) = false := beq_eq_false_iff_ne.mpr c10
            have c10b1 : ((Go.bits .and .u64 (ji9) 1) != 1) = true := bne_iff_ne.mpr c10
            by_cases c14 : 0 ≤ x9_1
            · rw [if_pos c14] at H
              have c14b0 := eq_true c14
              have c14b1 : decide (0 ≤ x9_1) = true := decide_eq_true c14
              clear c14
              obtain ⟨ji15, hji15⟩ : ∃ j_ : Int, (shr .u64 t147 x9_1) = j_ := ⟨_, rfl⟩
              replace H : (if (Go.bits .and .u64 (ji15) 1) = 1 then (ring_mulMod.l0 k1 t145 t147 a2 t148 (Go.bits .xor .u64 (IntKind.u64.wrap (x8_1 * 2)) t145) (wrap64 (x9_1 - 1))) else (ring_mulMod.l0 k1 t145 t147 a2 t148 (IntKind.u64.wrap (x8_1 * 2)) (wrap64 (x9_1 - 1)))) = some r := by first | (rw [hji15] at H; exact H) | (simp only [hji15] at H ⊢; exact H)
              have hji15_ : (t147 / 2 ^ min x9_1.toNat 64) = ji15 := hji15
              have hji15z : x9_1 ≤ 64 → (t147 / 2 ^ x9_1.toNat) = ji15 := shr_small hji15
              by_cases c16 : (Go.bits .and .u64 (ji15) 1) = 1
              · rw [if_pos c16] at H
                have c16b0 : ((Go.bits .and .u64 (ji15) 1) == 1) = true := beq_iff_eq.mpr c16
                have c16b1 : ((Go.bits .and .u64 (ji15) 1) != 1) = false := bne_eq_false_iff_eq.mpr c16
                clear c16
                have H' := Aside0.mk H
                clear H
                go_wp2
                go_roundg k1
                case measure => have := HK1.out; omega
                case rel => exact ⟨(Go.bits .xor .u64 (IntKind.u64.wrap (x8_1 * 2)) t145), (wrap64 (x9_1 - 1)), (by first | rfl | (simp; done) | (simp [*]; done)), (by first | rfl | (simp; done) | (simp [*]; done)), H', ⟨by have := HK1.out; omega⟩, by repeat (first | exact Drawn0.refl _ | apply Drawn0.step)⟩
              · rw [if_neg c16] at H
                have c16b0 : ((Go.bits .and .u64 (ji15) 1) == 1) = false := beq_eq_false_iff_ne.mpr c16
                have c16b1 : ((Go.bits .and .u64 (ji15) 1) != 1) = true := bne_iff_ne.mpr c16
                have H' := Aside0.mk H
                clear H
                go_wp2
                go_roundg k1
                case measure => have := HK1.out; omega
                case rel => exact ⟨(IntKind.u64.wrap (x8_1 * 2)), (wrap64 (x9_1 - 1)), (by first | rfl | (simp; done) | (simp [*]; done)), (by first | rfl | (simp; done) | (simp [*]; done)), H', ⟨by have := HK1.out; omega⟩, by repeat (first | exact Drawn0.refl _ | apply Drawn0.step)⟩
            · rw [if_neg c14] at H
              exact absurd H (by simp)
        · rw [if_neg c8] at H
          exact absurd H (by simp)
      · rw [if_neg c7] at H
        have c7b0 : decide (0 ≤ x9_1) = false := decide_eq_false c7
        clear c7
        obtain rfl := Option.some.inj H
        go_wp2
        go_ret
        exact ⟨by first | rfl | (simp; done) | (simp [*]; done), by repeat (first | exact Drawn0.refl _ | apply Drawn0.step)⟩

/-! ### ring_MulMod: function 25 -/
def ring_MulMod.f (k : Nat) (a0 : Int) (a1 : Int) (a2 : Int) : Option (Int × Int) := (ring_isModulus.f a2 32).bind fun t149 => (if t149 = true then ((ring_mulMod.f k a0 a1 a2).bind fun t150 => (some (t150, 0))) else (some (0, 11)))
theorem ring_MulMod.mono : ∀ a0 a1 a2 k, LeO (ring_MulMod.f k a0 a1 a2) (ring_MulMod.f (k + 1) a0 a1 a2) := by
  intro a0 a1 a2 k
  unfold ring_MulMod.f
  repeat' first
      | (with_reducible exact ring_mulMod.mono _ _ _ _)
      | (with_reducible exact LeO.refl _)
      | (with_reducible exact LeO.none _)
      | (with_reducible refine LeO.ite ?_ ?_)
      | (with_reducible refine LeO.bind ?_ (fun _ => ?_))
      | exact ring_mulMod.mono _ _ _ _
      | exact LeO.none _
      | refine LeO.ite ?_ ?_
      | refine LeO.bind ?_ (fun _ => ?_)
set_option maxHeartbeats 8000000 in
set_option maxRecDepth 100000 in
theorem ring_MulMod.calls (k : Nat) (a0 : Int) (a1 : Int) (a2 : Int) (r1 : Int) (r2 : Int) (w : World) (h : ring_MulMod.f k a0 a1 a2 = some (r1, r2)) :
    Calls Try.prog 25 #[.int .u64 a0, .int .u64 a1, .int .u64 a2] w fun e w' => e = .returned (.tuple #[.int .u64 r1, .int .i64 r2]) ∧ Drawn0 w w' := by
  have H : ((ring_isModulus.f a2 32).bind fun t149 => (if t149 = true then ((ring_mulMod.f k a0 a1 a2).bind fun t150 => (some (t150, 0))) else (some (0, 11)))) = some (r1, r2) := h
  clear h
  replace H := Option.bind_eq_some_iff.mp H
  obtain ⟨t149, A40, H⟩ := H
  replace H : (if t149 = true then ((ring_mulMod.f k a0 a1 a2).bind fun t150 => (some (t150, 0))) else (some (0, 11))) = some (r1, r2) := H
  have A4 := Aside0.mk A40
  clear A40
  by_cases c5 : t149 = true
  · subst c5
    have H1 : ((ring_mulMod.f k a0 a1 a2).bind fun t150 => (some (t150, 0))) = some (r1, r2) := by rw [if_pos rfl] at H; exact H
    clear H
    have H := H1
    clear H1
    replace H := Option.bind_eq_some_iff.mp H
    obtain ⟨t150, A60, H⟩ := H
    replace H : (some (t150, 0)) = some (r1, r2) := H
    have A6 := Aside0.mk A60
    clear A60
    simp only [Option.some.injEq, Prod.mk.injEq] at H
    obtain ⟨rfl, rfl⟩ := H
    go_enter Try.func25, Try.ntmps25
    go_wp2_with (first | ((with_reducible refine gate_callee (f := 27) rfl ?_); refine goesL_ (some 9) rfl rfl Try.func27 (by kernel_rfl) rfl #[.int .u64 a2, .int .i64 32] rfl (by (try simp only [List.map_toArray, List.map_cons, List.map_nil]); first | done | rfl | (simp only [List.length_drop, List.length_take]; rfl)) ?_; (with_reducible refine (ring_isModulus.calls a2 32 true _ A4.out).mono ?_); rintro e w' ⟨rfl, ⟨nd, rfl⟩⟩; refine ⟨_, rfl, ?_⟩) | ((with_reducible refine gate_callee (f := 28) rfl ?_); refine goesL_ (some 14) rfl rfl Try.func28 (by kernel_rfl) rfl #[.int .u64 a0, .int .u64 a1, .int .u64 a2] rfl (by (try simp only [List.map_toArray, List.map_cons, List.map_nil]); first | done | rfl | (simp only [List.length_drop, List.length_take]; rfl)) ?_; (with_reducible refine (ring_mulMod.calls k a0 a1 a2 t150 _ A6.out).mono ?_); rintro e w' ⟨rfl, ⟨nd, rfl⟩⟩; refine ⟨_, rfl, ?_⟩))
    go_ret2
    exact ⟨by first | rfl | (simp; done) | (simp [*]; done), by repeat (first | exact Drawn0.refl _ | apply Drawn0.step)⟩
  · replace c5 := Bool.eq_false_iff.mpr c5
    subst c5
    have H1 : (some (0, 11)) = some (r1, r2) := by rw [if_neg (show ¬ (false = true) by decide)] at H; exact H
    clear H
    have H := H1
    clear H1
    simp only [Option.some.injEq, Prod.mk.injEq] at H
    obtain ⟨rfl, rfl⟩ := H
    go_enter Try.func25, Try.ntmps25
    go_wp2_with (first | ((with_reducible refine gate_callee (f := 27) rfl ?_); refine goesL_ (some 9) rfl rfl Try.func27 (by kernel_rfl) rfl #[.int .u64 a2, .int .i64 32] rfl (by (try simp only [List.map_toArray, List.map_cons, List.map_nil]); first | done | rfl | (simp only [List.length_drop, List.length_take]; rfl)) ?_; (with_reducible refine (ring_isModulus.calls a2 32 false _ A4.out).mono ?_); rintro e w' ⟨rfl, ⟨nd, rfl⟩⟩; refine ⟨_, rfl, ?_⟩))
    go_ret2
    exact ⟨by first | rfl | (simp; done) | (simp [*]; done), by repeat (first | exact Drawn0.refl _ | apply Drawn0.step)⟩

/-! ### culletlaw01_awake: function 17 -/
def culletlaw01_awake.j0 : Nat → Bool → Option (Bool)
  | 0, _ => none
  | k + 1, x20 => if x20 = true then (some false) else ((ring_MulMod.f k 128 2 285).bind fun bt154 => (if bt154.1 = 29 then (if bt154.2 = 0 then ((ring_Degree.f 5).bind fun t156 => (if t156 = 2 then ((ring_Mul.f k 3 3).bind fun t157 => (some (t157 == 5))) else (some false))) else (some false)) else (some false)))
def culletlaw01_awake.f (k : Nat)  : Option (Bool) := (ring_DivMod.f k 285 2).bind fun bt151 => (if bt151.1 = 142 then (if bt151.2.1 = 1 then (culletlaw01_awake.j0 k (bt151.2.2 != 0)) else (culletlaw01_awake.j0 k true)) else (culletlaw01_awake.j0 k true))
theorem culletlaw01_awake.mono_l : ∀ k, (∀ y0, LeO (culletlaw01_awake.j0 k y0) (culletlaw01_awake.j0 (k + 1) y0))
  | 0 => fun _ r h => by simp [culletlaw01_awake.j0] at h
  | k + 1 => by
    have ih0 := culletlaw01_awake.mono_l k
    · intro y0
      unfold culletlaw01_awake.j0
      repeat' first
      | (with_reducible exact ih0 _)
      | (with_reducible exact ring_DivMod.mono _ _ _)
      | (with_reducible exact ring_Mul.mono _ _ _)
      | (with_reducible exact ring_MulMod.mono _ _ _ _)
      | (with_reducible exact LeO.refl _)
      | (with_reducible exact LeO.none _)
      | (with_reducible refine LeO.ite ?_ ?_)
      | (with_reducible refine LeO.bind ?_ (fun _ => ?_))
      | exact ih0 _
      | exact ring_DivMod.mono _ _ _
      | exact ring_Mul.mono _ _ _
      | exact ring_MulMod.mono _ _ _ _
      | exact LeO.none _
      | refine LeO.ite ?_ ?_
      | refine LeO.bind ?_ (fun _ => ?_)
theorem culletlaw01_awake.mono : ∀ k, LeO (culletlaw01_awake.f k ) (culletlaw01_awake.f (k + 1) ) := by
  intro  k
  have ih0 := culletlaw01_awake.mono_l k
  unfold culletlaw01_awake.f
  repeat' first
      | (with_reducible exact ih0 _)
      | (with_reducible exact ring_DivMod.mono _ _ _)
      | (with_reducible exact ring_Mul.mono _ _ _)
      | (with_reducible exact ring_MulMod.mono _ _ _ _)
      | (with_reducible exact LeO.refl _)
      | (with_reducible exact LeO.none _)
      | (with_reducible refine LeO.ite ?_ ?_)
      | (with_reducible refine LeO.bind ?_ (fun _ => ?_))
      | exact ih0 _
      | exact ring_DivMod.mono _ _ _
      | exact ring_Mul.mono _ _ _
      | exact ring_MulMod.mono _ _ _ _
      | exact LeO.none _
      | refine LeO.ite ?_ ?_
      | refine LeO.bind ?_ (fun _ => ?_)
set_option maxHeartbeats 8000000 in
set_option maxRecDepth 100000 in
theorem culletlaw01_awake.calls (k : Nat)  (r : Bool) (w : World) (h : culletlaw01_awake.f k  = some r) :
    Calls Try.prog 17 #[] w fun e w' => e = .returned (.bool r) ∧ Drawn0 w w' := by
  have H : ((ring_DivMod.f k 285 2).bind fun bt151 => (if bt151.1 = 142 then (if bt151.2.1 = 1 then (culletlaw01_awake.j0 k (bt151.2.2 != 0)) else (culletlaw01_awake.j0 k true)) else (culletlaw01_awake.j0 k true))) = some r := h
  clear h
  replace H := Option.bind_eq_some_iff.mp H
  obtain ⟨⟨t151, t152, t153⟩, A10, H⟩ := H
  replace H : (if t151 = 142 then (if t152 = 1 then (culletlaw01_awake.j0 k (t153 != 0)) else (culletlaw01_awake.j0 k true)) else (culletlaw01_awake.j0 k true)) = some r := H
  have A1 := Aside0.mk A10
  clear A10
  have HC2 := Aside0.mk H
  clear H
  go_enter Try.func17, Try.ntmps17
  go_upto_region 2 with (first | ((with_reducible refine gate_callee (f := 13) rfl ?_); refine goesL_ (some 7) rfl rfl Try.func13 (by kernel_rfl) rfl #[.int .u64 285, .int .u64 2] rfl (by (try simp only [List.map_toArray, List.map_cons, List.map_nil]); first | done | rfl | (simp only [List.length_drop, List.length_take]; rfl)) ?_; (with_reducible refine (ring_DivMod.calls k 285 2 t151 t152 t153 _ A1.out).mono ?_); rintro e w' ⟨rfl, ⟨nd, rfl⟩⟩; refine ⟨_, rfl, ?_⟩))
  (try simp only [Act.put, List.setIfInBounds_toArray, List.set_cons_zero, List.set_cons_succ])
  go_cut [20] (fun v20 wc => ∃ (kq : Nat) (x20_1 : Bool), v20 = .bool x20_1 ∧ Aside0 (culletlaw01_awake.j0 kq x20_1 = some r) ∧ Aside0 (kq ≤ k) ∧ Drawn0 w wc)
  case first =>
    have H := HC2.out
    clear HC2
    by_cases c3 : t151 = 142
    · rw [if_pos c3] at H
      have c3b0 : (t151 == 142) = true := beq_iff_eq.mpr c3
      have c3b1 : (t151 != 142) = false := bne_eq_false_iff_eq.mpr c3
      clear c3
      (first | rw [c3b0] | (simp only [i64_w, i32_w]; rw [c3b0]) | skip)
      by_cases c4 : t152 = 1
      · rw [if_pos c4] at H
        have c4b0 : (t152 == 1) = true := beq_iff_eq.mpr c4
        have c4b1 : (t152 != 1) = false := bne_eq_false_iff_eq.mpr c4
        clear c4
        have H' := Aside0.mk H
        clear H
        go_wp2
        go_meet
        case rel => exact ⟨_, ((t153 != 0)), (by first | rfl | (simp; done) | (simp [*]; done)), H', ⟨by first | omega | exact Nat.le_refl _⟩, by repeat (first | exact Drawn0.refl _ | apply Drawn0.step)⟩
      · rw [if_neg c4] at H
        have c4b0 : (t152 == 1) = false := beq_eq_false_iff_ne.mpr c4
        have c4b1 : (t152 != 1) = true := bne_iff_ne.mpr c4
        have H' := Aside0.mk H
        clear H
        go_wp2
        go_meet
        case rel => exact ⟨_, (true), (by first | rfl | (simp; done) | (simp [*]; done)), H', ⟨by first | omega | exact Nat.le_refl _⟩, by repeat (first | exact Drawn0.refl _ | apply Drawn0.step)⟩
    · rw [if_neg c3] at H
      have c3b0 : (t151 == 142) = false := beq_eq_false_iff_ne.mpr c3
      have c3b1 : (t151 != 142) = true := bne_iff_ne.mpr c3
      (first | rw [c3b0] | (simp only [i64_w, i32_w]; rw [c3b0]) | skip)
      have H' := Aside0.mk H
      clear H
      go_wp2
      go_meet
      case rel => exact ⟨_, (true), (by first | rfl | (simp; done) | (simp [*]; done)), H', ⟨by first | omega | exact Nat.le_refl _⟩, by repeat (first | exact Drawn0.refl _ | apply Drawn0.step)⟩
  case rest =>
    clear HC2
    try clear c1
    try clear p2
    try clear c3
    try clear c3b0
    try clear c3b1
    try clear c4
    try clear c4b0
    try clear c4b1
    obtain ⟨kq, x20_1, rfl, HA, HJ1, ⟨mc1, rfl⟩⟩ := hcut
    cases kq with
    | zero => exact absurd HA.out (by simp [culletlaw01_awake.j0])
    | succ kj1 =>
      have H := HA.out
      clear HA
      simp only [culletlaw01_awake.j0] at H
      by_cases c5 : x20_1 = true
      · subst c5
        have H1 : (some false) = some r := by rw [if_pos rfl] at H; exact H
        clear H
        have H := H1
        clear H1
        obtain rfl := Option.some.inj H
        go_wp2
        go_ret
        exact ⟨by first | rfl | (simp; done) | (simp [*]; done), by repeat (first | exact Drawn0.refl _ | apply Drawn0.step)⟩
      · replace c5 := Bool.eq_false_iff.mpr c5
        subst c5
        have H1 : ((ring_MulMod.f kj1 128 2 285).bind fun bt154 => (if bt154.1 = 29 then (if bt154.2 = 0 then ((ring_Degree.f 5).bind fun t156 => (if t156 = 2 then ((ring_Mul.f kj1 3 3).bind fun t157 => (some (t157 == 5))) else (some false))) else (some false)) else (some false))) = some r := by rw [if_neg (show ¬ (false = true) by decide)] at H; exact H
        clear H
        have H := H1
        clear H1
        replace H := Option.bind_eq_some_iff.mp H
        obtain ⟨⟨t154, t155⟩, A60, H⟩ := H
        replace H : (if t154 = 29 then (if t155 = 0 then ((ring_Degree.f 5).bind fun t156 => (if t156 = 2 then ((ring_Mul.f kj1 3 3).bind fun t157 => (some (t157 == 5))) else (some false))) else (some false)) else (some false)) = some r := H
        have A6 := Aside0.mk A60
        clear A60
        by_cases c7 : t154 = 29
        · rw [if_pos c7] at H
          have c7b0 : (t154 == 29) = true := beq_iff_eq.mpr c7
          have c7b1 : (t154 != 29) = false := bne_eq_false_iff_eq.mpr c7
          clear c7
          by_cases c8 : t155 = 0
          · rw [if_pos c8] at H
            have c8b0 : (t155 == 0) = true := beq_iff_eq.mpr c8
            have c8b1 : (t155 != 0) = false := bne_eq_false_iff_eq.mpr c8
            clear c8
            replace H := Option.bind_eq_some_iff.mp H
            obtain ⟨t156, A90, H⟩ := H
            replace H : (if t156 = 2 then ((ring_Mul.f kj1 3 3).bind fun t157 => (some (t157 == 5))) else (some false)) = some r := H
            have A9 := Aside0.mk A90
            clear A90
            by_cases c10 : t156 = 2
            · rw [if_pos c10] at H
              have c10b0 : (t156 == 2) = true := beq_iff_eq.mpr c10
              have c10b1 : (t156 != 2) = false := bne_eq_false_iff_eq.mpr c10
              clear c10
              replace H := Option.bind_eq_some_iff.mp H
              obtain ⟨t157, A110, H⟩ := H
              replace H : (some (t157 == 5)) = some r := H
              have A11 := Aside0.mk A110
              clear A110
              obtain rfl := Option.some.inj H
              go_wp2_with (first | ((with_reducible refine gate_callee (f := 25) rfl ?_); refine goesL_ (some 22) rfl rfl Try.func25 (by kernel_rfl) rfl #[.int .u64 128, .int .u64 2, .int .u64 285] rfl (by (try simp only [List.map_toArray, List.map_cons, List.map_nil]); first | done | rfl | (simp only [List.length_drop, List.length_take]; rfl)) ?_; (with_reducible refine (ring_MulMod.calls kj1 128 2 285 t154 t155 _ A6.out).mono ?_); rintro e w' ⟨rfl, ⟨nd, rfl⟩⟩; refine ⟨_, rfl, ?_⟩) | (go_at_call 26; (with_reducible refine (ring_Degree.calls 5 t156 _ A9.out).mono ?_); rintro e w' ⟨rfl, ⟨nd, rfl⟩⟩) | (go_at_call 14; (with_reducible refine (ring_Mul.calls kj1 3 3 t157 _ A11.out).mono ?_); rintro e w' ⟨rfl, ⟨nd, rfl⟩⟩))
              go_ret
              exact ⟨by first | rfl | (simp; done) | (simp [*]; done), by repeat (first | exact Drawn0.refl _ | apply Drawn0.step)⟩
            · rw [if_neg c10] at H
              have c10b0 : (t156 == 2) = false := beq_eq_false_iff_ne.mpr c10
              have c10b1 : (t156 != 2) = true := bne_iff_ne.mpr c10
              obtain rfl := Option.some.inj H
              go_wp2_with (first | ((with_reducible refine gate_callee (f := 25) rfl ?_); refine goesL_ (some 22) rfl rfl Try.func25 (by kernel_rfl) rfl #[.int .u64 128, .int .u64 2, .int .u64 285] rfl (by (try simp only [List.map_toArray, List.map_cons, List.map_nil]); first | done | rfl | (simp only [List.length_drop, List.length_take]; rfl)) ?_; (with_reducible refine (ring_MulMod.calls kj1 128 2 285 t154 t155 _ A6.out).mono ?_); rintro e w' ⟨rfl, ⟨nd, rfl⟩⟩; refine ⟨_, rfl, ?_⟩) | (go_at_call 26; (with_reducible refine (ring_Degree.calls 5 t156 _ A9.out).mono ?_); rintro e w' ⟨rfl, ⟨nd, rfl⟩⟩))
              go_ret
              exact ⟨by first | rfl | (simp; done) | (simp [*]; done), by repeat (first | exact Drawn0.refl _ | apply Drawn0.step)⟩
          · rw [if_neg c8] at H
            have c8b0 : (t155 == 0) = false := beq_eq_false_iff_ne.mpr c8
            have c8b1 : (t155 != 0) = true := bne_iff_ne.mpr c8
            obtain rfl := Option.some.inj H
            go_wp2_with (first | ((with_reducible refine gate_callee (f := 25) rfl ?_); refine goesL_ (some 22) rfl rfl Try.func25 (by kernel_rfl) rfl #[.int .u64 128, .int .u64 2, .int .u64 285] rfl (by (try simp only [List.map_toArray, List.map_cons, List.map_nil]); first | done | rfl | (simp only [List.length_drop, List.length_take]; rfl)) ?_; (with_reducible refine (ring_MulMod.calls kj1 128 2 285 t154 t155 _ A6.out).mono ?_); rintro e w' ⟨rfl, ⟨nd, rfl⟩⟩; refine ⟨_, rfl, ?_⟩))
            go_ret
            exact ⟨by first | rfl | (simp; done) | (simp [*]; done), by repeat (first | exact Drawn0.refl _ | apply Drawn0.step)⟩
        · rw [if_neg c7] at H
          have c7b0 : (t154 == 29) = false := beq_eq_false_iff_ne.mpr c7
          have c7b1 : (t154 != 29) = true := bne_iff_ne.mpr c7
          obtain rfl := Option.some.inj H
          go_wp2_with (first | ((with_reducible refine gate_callee (f := 25) rfl ?_); refine goesL_ (some 22) rfl rfl Try.func25 (by kernel_rfl) rfl #[.int .u64 128, .int .u64 2, .int .u64 285] rfl (by (try simp only [List.map_toArray, List.map_cons, List.map_nil]); first | done | rfl | (simp only [List.length_drop, List.length_take]; rfl)) ?_; (with_reducible refine (ring_MulMod.calls kj1 128 2 285 t154 t155 _ A6.out).mono ?_); rintro e w' ⟨rfl, ⟨nd, rfl⟩⟩; refine ⟨_, rfl, ?_⟩))
          go_ret
          exact ⟨by first | rfl | (simp; done) | (simp [*]; done), by repeat (first | exact Drawn0.refl _ | apply Drawn0.step)⟩

end Go.Proofs.Ytilacemjflomfaa.Q
