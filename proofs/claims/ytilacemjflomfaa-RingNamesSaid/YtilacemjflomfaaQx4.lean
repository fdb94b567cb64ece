-- Printed for this claim by mp.py, a program of its prover, through the kit's print. Lean checks it.
import Derived.Test.YtilacemjflomfaaQx0
import Derived.Test.YtilacemjflomfaaQx1
import Derived.Test.YtilacemjflomfaaQx3
namespace Go.Proofs.Ytilacemjflomfaa.Q
open Go.RowKit Go.Proofs.YtilacemjflomfaaW.PrintWords Go.Proofs.YtilacemjflomfaaW.PrintLast Go.Proofs.YtilacemjflomfaaW.PrintMore
attribute [local go_sem] max2_int min2_int max_two min_two max_three min_three max_four min_four   -- for this text's walks alone
set_option linter.unusedVariables false
set_option linter.unusedSimpArgs false

/-! ### culletlaw01_RingBezout: function 5 -/
mutual
def culletlaw01_RingBezout.j0 : Nat → Int → Int → Bool → Option (Bool)
  | 0, _, _, _ => none
  | k + 1, x0, x1, x22 => if x22 = true then (some false) else ((ring_Bezout.f k x0 x1).bind fun bt134 => ((ring_Gcd.f k (IntKind.u64.wrap (x0)) (IntKind.u64.wrap (x1))).bind fun t137 => (if (IntKind.u64.wrap (bt134.1)) = t137 then ((ring_Mul.f k bt134.2.1 x0).bind fun t138 => ((ring_Mul.f k bt134.2.2 x1).bind fun t139 => (culletlaw01_RingBezout.j1 k x0 x1 bt134.1 bt134.2.1 bt134.2.2 ((Go.bits .xor .u64 t138 t139) != (IntKind.u64.wrap (bt134.1)))))) else (culletlaw01_RingBezout.j1 k x0 x1 bt134.1 bt134.2.1 bt134.2.2 true))))
def culletlaw01_RingBezout.j1 : Nat → Int → Int → Int → Int → Int → Bool → Option (Bool)
  | 0, _, _, _, _, _, _ => none
  | k + 1, x0, x1, x5, x6, x7, x49 => if x49 = true then (some false) else (if x1 = 0 then (if x7 = 0 then (some ((x0 == 0) == (x6 == 0))) else (some false)) else ((culletlaw01_high.f k (IntKind.u64.wrap (x6))).bind fun t140 => ((culletlaw01_high.f k (IntKind.u64.wrap (x1))).bind fun t141 => ((culletlaw01_high.f k (IntKind.u64.wrap (x5))).bind fun t142 => (some (decide (t140 < (wrap64 (t141 - t142)))))))))
end
def culletlaw01_RingBezout.f (k : Nat) (a0 : Int) (a1 : Int) : Option (Bool) := (ring_Bezout.f k 6 5).bind fun bt131 => (if bt131.1 = 3 then (if bt131.2.1 = 1 then (culletlaw01_RingBezout.j0 k a0 a1 (bt131.2.2 != 1)) else (culletlaw01_RingBezout.j0 k a0 a1 true)) else (culletlaw01_RingBezout.j0 k a0 a1 true))
theorem culletlaw01_RingBezout.mono_l : ∀ k, (∀ y0 y1 y2, LeO (culletlaw01_RingBezout.j0 k y0 y1 y2) (culletlaw01_RingBezout.j0 (k + 1) y0 y1 y2)) ∧ (∀ y0 y1 y2 y3 y4 y5, LeO (culletlaw01_RingBezout.j1 k y0 y1 y2 y3 y4 y5) (culletlaw01_RingBezout.j1 (k + 1) y0 y1 y2 y3 y4 y5))
  | 0 => ⟨fun _ _ _ r h => by simp [culletlaw01_RingBezout.j0] at h, fun _ _ _ _ _ _ r h => by simp [culletlaw01_RingBezout.j1] at h⟩
  | k + 1 => by
    obtain ⟨ih0, ih1⟩ := culletlaw01_RingBezout.mono_l k
    refine ⟨?_, ?_⟩
    · intro y0 y1 y2
      unfold culletlaw01_RingBezout.j0
      repeat' first
      | (with_reducible exact ih0 _ _ _)
      | (with_reducible exact ih1 _ _ _ _ _ _)
      | (with_reducible exact culletlaw01_high.mono _ _)
      | (with_reducible exact ring_Bezout.mono _ _ _)
      | (with_reducible exact ring_Gcd.mono _ _ _)
      | (with_reducible exact ring_Mul.mono _ _ _)
      | (with_reducible exact LeO.refl _)
      | (with_reducible exact LeO.none _)
      | (with_reducible refine LeO.ite ?_ ?_)
      | (with_reducible refine LeO.bind ?_ (fun _ => ?_))
      | exact ih0 _ _ _
      | exact ih1 _ _ _ _ _ _
      | exact culletlaw01_high.mono _ _
      | exact ring_Bezout.mono _ _ _
      | exact ring_Gcd.mono _ _ _
      | exact ring_Mul.mono _ _ _
      | exact LeO.none _
      | refine LeO.ite ?_ ?_
      | refine LeO.bind ?_ (fun _ => ?_)
    · intro y0 y1 y2 y3 y4 y5
      unfold culletlaw01_RingBezout.j1
      repeat' first
      | (with_reducible exact ih0 _ _ _)
      | (with_reducible exact ih1 _ _ _ _ _ _)
      | (with_reducible exact culletlaw01_high.mono _ _)
      | (with_reducible exact ring_Bezout.mono _ _ _)
      | (with_reducible exact ring_Gcd.mono _ _ _)
      | (with_reducible exact ring_Mul.mono _ _ _)
      | (with_reducible exact LeO.refl _)
      | (with_reducible exact LeO.none _)
      | (with_reducible refine LeO.ite ?_ ?_)
      | (with_reducible refine LeO.bind ?_ (fun _ => ?_))
      | exact ih0 _ _ _
      | exact ih1 _ _ _ _ _ _
      | exact culletlaw01_high.mono _ _
      | exact ring_Bezout.mono _ _ _
      | exact ring_Gcd.mono _ _ _
      | exact ring_Mul.mono _ _ _
      | exact LeO.none _
      | refine LeO.ite ?_ ?_
      | refine LeO.bind ?_ (fun _ => ?_)
theorem culletlaw01_RingBezout.mono : ∀ a0 a1 k, LeO (culletlaw01_RingBezout.f k a0 a1) (culletlaw01_RingBezout.f (k + 1) a0 a1) := by
  intro a0 a1 k
  obtain ⟨ih0, ih1⟩ := culletlaw01_RingBezout.mono_l k
  unfold culletlaw01_RingBezout.f
  repeat' first
      | (with_reducible exact ih0 _ _ _)
      | (with_reducible exact ih1 _ _ _ _ _ _)
      | (with_reducible exact culletlaw01_high.mono _ _)
      | (with_reducible exact ring_Bezout.mono _ _ _)
      | (with_reducible exact ring_Gcd.mono _ _ _)
      | (with_reducible exact ring_Mul.mono _ _ _)
      | (with_reducible exact LeO.refl _)
      | (with_reducible exact LeO.none _)
      | (with_reducible refine LeO.ite ?_ ?_)
      | (with_reducible refine LeO.bind ?_ (fun _ => ?_))
      | exact ih0 _ _ _
      | exact ih1 _ _ _ _ _ _
      | exact culletlaw01_high.mono _ _
      | exact ring_Bezout.mono _ _ _
      | exact ring_Gcd.mono _ _ _
      | exact ring_Mul.mono _ _ _
      | exact LeO.none _
      | refine LeO.ite ?_ ?_
      | refine LeO.bind ?_ (fun _ => ?_)
set_option maxHeartbeats 8000000 in
set_option maxRecDepth 100000 in
theorem culletlaw01_RingBezout.calls (k : Nat) (a0 : Int) (a1 : Int) (r : Bool) (w : World) (h : culletlaw01_RingBezout.f k a0 a1 = some r) :
    Calls Try.prog 5 #[.int .u32 a0, .int .u32 a1] w fun e w' => e = .returned (.bool r) ∧ Drawn0 w w' := by
  have H : ((ring_Bezout.f k 6 5).bind fun bt131 => (if bt131.1 = 3 then (if bt131.2.1 = 1 then (culletlaw01_RingBezout.j0 k a0 a1 (bt131.2.2 != 1)) else (culletlaw01_RingBezout.j0 k a0 a1 true)) else (culletlaw01_RingBezout.j0 k a0 a1 true))) = some r := h
  clear h
  replace H := Option.bind_eq_some_iff.mp H
  obtain ⟨⟨t131, t132, t133⟩, A30, H⟩ := H
  replace H : (if t131 = 3 then (if t132 = 1 then (culletlaw01_RingBezout.j0 k a0 a1 (t133 != 1)) else (culletlaw01_RingBezout.j0 k a0 a1 true)) else (culletlaw01_RingBezout.j0 k a0 a1 true)) = some r := H
  have A3 := Aside0.mk A30
  clear A30
  have HC4 := Aside0.mk H
  clear H
  go_enter Try.func5, Try.ntmps5
  go_upto_region 2 with (first | ((with_reducible refine gate_callee (f := 15) rfl ?_); refine goesL_ (some 9) rfl rfl Try.func15 (by kernel_rfl) rfl #[.int .u32 6, .int .u32 5] rfl (by (try simp only [List.map_toArray, List.map_cons, List.map_nil]); first | done | rfl | (simp only [List.length_drop, List.length_take]; rfl)) ?_; (with_reducible refine (ring_Bezout.calls k 6 5 t131 t132 t133 _ A3.out).mono ?_); rintro e w' ⟨rfl, ⟨nd, rfl⟩⟩; refine ⟨_, rfl, ?_⟩))
  (try simp only [Act.put, List.setIfInBounds_toArray, List.set_cons_zero, List.set_cons_succ])
  go_cut [22] (fun v22 wc => ∃ (kq : Nat) (x22_3 : Bool), v22 = .bool x22_3 ∧ Aside0 (culletlaw01_RingBezout.j0 kq a0 a1 x22_3 = some r) ∧ Aside0 (kq ≤ k) ∧ Drawn0 w wc)
  case first =>
    have H := HC4.out
    clear HC4
    by_cases c5 : t131 = 3
    · rw [if_pos c5] at H
      have c5b0 : (t131 == 3) = true := beq_iff_eq.mpr c5
      have c5b1 : (t131 != 3) = false := bne_eq_false_iff_eq.mpr c5
      clear c5
      (first | rw [c5b0] | (simp only [i64_w, i32_w]; rw [c5b0]) | skip)
      by_cases c6 : t132 = 1
      · rw [if_pos c6] at H
        have c6b0 : (t132 == 1) = true := beq_iff_eq.mpr c6
        have c6b1 : (t132 != 1) = false := bne_eq_false_iff_eq.mpr c6
        clear c6
        have H' := Aside0.mk H
        clear H
        go_wp2
        go_meet
        case rel => exact ⟨_, ((t133 != 1)), (by first | rfl | (simp; done) | (simp [*]; done)), H', ⟨by first | omega | exact Nat.le_refl _⟩, by repeat (first | exact Drawn0.refl _ | apply Drawn0.step)⟩
      · rw [if_neg c6] at H
        have c6b0 : (t132 == 1) = false := beq_eq_false_iff_ne.mpr c6
        have c6b1 : (t132 != 1) = true := bne_iff_ne.mpr c6
        have H' := Aside0.mk H
        clear H
        go_wp2
        go_meet
        case rel => exact ⟨_, (true), (by first | rfl | (simp; done) | (simp [*]; done)), H', ⟨by first | omega | exact Nat.le_refl _⟩, by repeat (first | exact Drawn0.refl _ | apply Drawn0.step)⟩
    · rw [if_neg c5] at H
      have c5b0 : (t131 == 3) = false := beq_eq_false_iff_ne.mpr c5
      have c5b1 : (t131 != 3) = true := bne_iff_ne.mpr c5
      (first | rw [c5b0] | (simp only [i64_w, i32_w]; rw [c5b0]) | skip)
      have H' := Aside0.mk H
      clear H
      go_wp2
      go_meet
      case rel => exact ⟨_, (true), (by first | rfl | (simp; done) | (simp [*]; done)), H', ⟨by first | omega | exact Nat.le_refl _⟩, by repeat (first | exact Drawn0.refl _ | apply Drawn0.step)⟩
  case rest =>
    clear HC4
    try clear c1
    try clear p2
    try clear c5
    try clear c5b0
    try clear c5b1
    try clear c6
    try clear c6b0
    try clear c6b1
    obtain ⟨kq, x22_3, rfl, HA, HJ3, ⟨mc3, rfl⟩⟩ := hcut
    cases kq with
    | zero => exact absurd HA.out (by simp [culletlaw01_RingBezout.j0])
    | succ kj3 =>
      have H := HA.out
      clear HA
      simp only [culletlaw01_RingBezout.j0] at H
      by_cases c7 : x22_3 = true
      · subst c7
        have H1 : (some false) = some r := by rw [if_pos rfl] at H; exact H
        clear H
        have H := H1
        clear H1
        obtain rfl := Option.some.inj H
        go_wp2
        go_ret
        exact ⟨by first | rfl | (simp; done) | (simp [*]; done), by repeat (first | exact Drawn0.refl _ | apply Drawn0.step)⟩
      · replace c7 := Bool.eq_false_iff.mpr c7
        subst c7
        have H1 : ((ring_Bezout.f kj3 a0 a1).bind fun bt134 => ((ring_Gcd.f kj3 (IntKind.u64.wrap (a0)) (IntKind.u64.wrap (a1))).bind fun t137 => (if (IntKind.u64.wrap (bt134.1)) = t137 then ((ring_Mul.f kj3 bt134.2.1 a0).bind fun t138 => ((ring_Mul.f kj3 bt134.2.2 a1).bind fun t139 => (culletlaw01_RingBezout.j1 kj3 a0 a1 bt134.1 bt134.2.1 bt134.2.2 ((Go.bits .xor .u64 t138 t139) != (IntKind.u64.wrap (bt134.1)))))) else (culletlaw01_RingBezout.j1 kj3 a0 a1 bt134.1 bt134.2.1 bt134.2.2 true)))) = some r := by rw [if_neg (show ¬ (false = true) by decide)] at H; exact H
        clear H
        have H := H1
        clear H1
        replace H := Option.bind_eq_some_iff.mp H
        obtain ⟨⟨t134, t135, t136⟩, A80, H⟩ := H
        replace H : ((ring_Gcd.f kj3 (IntKind.u64.wrap (a0)) (IntKind.u64.wrap (a1))).bind fun t137 => (if (IntKind.u64.wrap (t134)) = t137 then ((ring_Mul.f kj3 t135 a0).bind fun t138 => ((ring_Mul.f kj3 t136 a1).bind fun t139 => (culletlaw01_RingBezout.j1 kj3 a0 a1 t134 t135 t136 ((Go.bits .xor .u64 t138 t139) != (IntKind.u64.wrap (t134)))))) else (culletlaw01_RingBezout.j1 kj3 a0 a1 t134 t135 t136 true))) = some r := H
        have A8 := Aside0.mk A80
        clear A80
        have HC9 := Aside0.mk H
        clear H
        go_upto_region 5 with (first | ((with_reducible refine gate_callee (f := 15) rfl ?_); refine goesL_ (some 26) rfl rfl Try.func15 (by kernel_rfl) rfl #[.int .u32 a0, .int .u32 a1] rfl (by (try simp only [List.map_toArray, List.map_cons, List.map_nil]); first | done | rfl | (simp only [List.length_drop, List.length_take]; rfl)) ?_; (with_reducible refine (ring_Bezout.calls kj3 a0 a1 t134 t135 t136 _ A8.out).mono ?_); rintro e w' ⟨rfl, ⟨nd, rfl⟩⟩; refine ⟨_, rfl, ?_⟩))
        (try simp only [Act.put, List.setIfInBounds_toArray, List.set_cons_zero, List.set_cons_succ])
        go_cut [49] (fun v49 wc => ∃ (kq : Nat) (x49_8 : Bool), v49 = .bool x49_8 ∧ Aside0 (culletlaw01_RingBezout.j1 kq a0 a1 t134 t135 t136 x49_8 = some r) ∧ Aside0 (kq ≤ kj3) ∧ Drawn0 w wc)
        case first =>
          have H := HC9.out
          clear HC9
          replace H := Option.bind_eq_some_iff.mp H
          obtain ⟨t137, A100, H⟩ := H
          replace H : (if (IntKind.u64.wrap (t134)) = t137 then ((ring_Mul.f kj3 t135 a0).bind fun t138 => ((ring_Mul.f kj3 t136 a1).bind fun t139 => (culletlaw01_RingBezout.j1 kj3 a0 a1 t134 t135 t136 ((Go.bits .xor .u64 t138 t139) != (IntKind.u64.wrap (t134)))))) else (culletlaw01_RingBezout.j1 kj3 a0 a1 t134 t135 t136 true)) = some r := H
          have A10 := Aside0.mk A100
          clear A100
          by_cases c11 : (IntKind.u64.wrap (t134)) = t137
          · rw [if_pos c11] at H
            have c11b0 : ((IntKind.u64.wrap (t134)) == t137) = true := beq_iff_eq.mpr c11
            have c11b1 : ((IntKind.u64.wrap (t134)) != t137) = false := bne_eq_false_iff_eq.mpr c11
            clear c11
            (first | rw [c11b0] | (simp only [i64_w, i32_w]; rw [c11b0]) | skip)
            replace H := Option.bind_eq_some_iff.mp H
            obtain ⟨t138, A120, H⟩ := H
            replace H : ((ring_Mul.f kj3 t136 a1).bind fun t139 => (culletlaw01_RingBezout.j1 kj3 a0 a1 t134 t135 t136 ((Go.bits .xor .u64 t138 t139) != (IntKind.u64.wrap (t134))))) = some r := H
            have A12 := Aside0.mk A120
            clear A120
            replace H := Option.bind_eq_some_iff.mp H
            obtain ⟨t139, A130, H⟩ := H
            replace H : (culletlaw01_RingBezout.j1 kj3 a0 a1 t134 t135 t136 ((Go.bits .xor .u64 t138 t139) != (IntKind.u64.wrap (t134)))) = some r := H
            have A13 := Aside0.mk A130
            clear A130
            have H' := Aside0.mk H
            clear H
            go_wp2_with (first | ((with_reducible refine gate_callee (f := 12) rfl ?_); refine goesL_ (some 36) rfl rfl Try.func12 (by kernel_rfl) rfl #[.int .u64 (IntKind.u64.wrap (a0)), .int .u64 (IntKind.u64.wrap (a1))] rfl (by (try simp only [List.map_toArray, List.map_cons, List.map_nil]); first | done | rfl | (simp only [List.length_drop, List.length_take]; rfl)) ?_; (with_reducible refine (ring_Gcd.calls kj3 (IntKind.u64.wrap (a0)) (IntKind.u64.wrap (a1)) t137 _ A10.out).mono ?_); rintro e w' ⟨rfl, ⟨nd, rfl⟩⟩; refine ⟨_, rfl, ?_⟩) | (go_at_call 14; (with_reducible refine (ring_Mul.calls kj3 t135 a0 t138 _ A12.out).mono ?_); rintro e w' ⟨rfl, ⟨nd, rfl⟩⟩) | (go_at_call 14; (with_reducible refine (ring_Mul.calls kj3 t136 a1 t139 _ A13.out).mono ?_); rintro e w' ⟨rfl, ⟨nd, rfl⟩⟩))
            go_meet
            case rel => exact ⟨_, (((Go.bits .xor .u64 t138 t139) != (IntKind.u64.wrap (t134)))), (by first | rfl | (simp; done) | (simp [*]; done)), H', ⟨by have := HJ3.out; first | omega | exact Nat.le_refl _⟩, by repeat (first | exact Drawn0.refl _ | apply Drawn0.step)⟩
          · rw [if_neg c11] at H
            have c11b0 : ((IntKind.u64.wrap (t134)) == t137) = false := beq_eq_false_iff_ne.mpr c11
            have c11b1 : ((IntKind.u64.wrap (t134)) != t137) = true := bne_iff_ne.mpr c11
            (first | rw [c11b0] | (simp only [i64_w, i32_w]; rw [c11b0]) | skip)
            have H' := Aside0.mk H
            clear H
            go_wp2_with (first | ((with_reducible refine gate_callee (f := 12) rfl ?_); refine goesL_ (some 36) rfl rfl Try.func12 (by kernel_rfl) rfl #[.int .u64 (IntKind.u64.wrap (a0)), .int .u64 (IntKind.u64.wrap (a1))] rfl (by (try simp only [List.map_toArray, List.map_cons, List.map_nil]); first | done | rfl | (simp only [List.length_drop, List.length_take]; rfl)) ?_; (with_reducible refine (ring_Gcd.calls kj3 (IntKind.u64.wrap (a0)) (IntKind.u64.wrap (a1)) t137 _ A10.out).mono ?_); rintro e w' ⟨rfl, ⟨nd, rfl⟩⟩; refine ⟨_, rfl, ?_⟩))
            go_meet
            case rel => exact ⟨_, (true), (by first | rfl | (simp; done) | (simp [*]; done)), H', ⟨by have := HJ3.out; first | omega | exact Nat.le_refl _⟩, by repeat (first | exact Drawn0.refl _ | apply Drawn0.step)⟩
        case rest =>
          clear HC9
          try clear c1
          try clear p2
          try clear c3
          try clear c5
          try clear c5b0
          try clear c5b1
          try clear c6
          try clear c6b0
          try clear c6b1
          try clear c7
          try clear c11
          try clear c11b0
          try clear c11b1
          try clear c12
          try clear p2
          obtain ⟨kq, x49_8, rfl, HA, HJ8, ⟨mc8, rfl⟩⟩ := hcut
          cases kq with
          | zero => exact absurd HA.out (by simp [culletlaw01_RingBezout.j1])
          | succ kj8 =>
            have H := HA.out
            clear HA
            simp only [culletlaw01_RingBezout.j1] at H
            by_cases c14 : x49_8 = true
            · subst c14
              have H1 : (some false) = some r := by rw [if_pos rfl] at H; exact H
              clear H
              have H := H1
              clear H1
              obtain rfl := Option.some.inj H
              go_wp2
              go_ret
              exact ⟨by first | rfl | (simp; done) | (simp [*]; done), by repeat (first | exact Drawn0.refl _ | apply Drawn0.step)⟩
            · replace c14 := Bool.eq_false_iff.mpr c14
              subst c14
              have H1 : (if a1 = 0 then (if t136 = 0 then (some ((a0 == 0) == (t135 == 0))) else (some false)) else ((culletlaw01_high.f kj8 (IntKind.u64.wrap (t135))).bind fun t140 => ((culletlaw01_high.f kj8 (IntKind.u64.wrap (a1))).bind fun t141 => ((culletlaw01_high.f kj8 (IntKind.u64.wrap (t134))).bind fun t142 => (some (decide (t140 < (wrap64 (t141 - t142))))))))) = some r := by rw [if_neg (show ¬ (false = true) by decide)] at H; exact H
              clear H
              have H := H1
              clear H1
              by_cases c15 : a1 = 0
              · rw [if_pos c15] at H
                have c15b0 : (a1 == 0) = true := beq_iff_eq.mpr c15
                have c15b1 : (a1 != 0) = false := bne_eq_false_iff_eq.mpr c15
                clear c15
                by_cases c16 : t136 = 0
                · rw [if_pos c16] at H
                  have c16b0 : (t136 == 0) = true := beq_iff_eq.mpr c16
                  have c16b1 : (t136 != 0) = false := bne_eq_false_iff_eq.mpr c16
                  clear c16
                  obtain rfl := Option.some.inj H
                  go_wp2
                  go_ret
                  exact ⟨by first | rfl | (simp; done) | (simp [*]; done), by repeat (first | exact Drawn0.refl _ | apply Drawn0.step)⟩
                · rw [if_neg c16] at H
                  have c16b0 : (t136 == 0) = false := beq_eq_false_iff_ne.mpr c16
                  have c16b1 : (t136 != 0) = true := bne_iff_ne.mpr c16
                  obtain rfl := Option.some.inj H
                  go_wp2
                  go_ret
                  exact ⟨by first | rfl | (simp; done) | (simp [*]; done), by repeat (first | exact Drawn0.refl _ | apply Drawn0.step)⟩
              · rw [if_neg c15] at H
                have c15b0 : (a1 == 0) = false := beq_eq_false_iff_ne.mpr c15
                have c15b1 : (a1 != 0) = true := bne_iff_ne.mpr c15
                replace H := Option.bind_eq_some_iff.mp H
                obtain ⟨t140, A170, H⟩ := H
                replace H : ((culletlaw01_high.f kj8 (IntKind.u64.wrap (a1))).bind fun t141 => ((culletlaw01_high.f kj8 (IntKind.u64.wrap (t134))).bind fun t142 => (some (decide (t140 < (wrap64 (t141 - t142))))))) = some r := H
                have A17 := Aside0.mk A170
                clear A170
                replace H := Option.bind_eq_some_iff.mp H
                obtain ⟨t141, A180, H⟩ := H
                replace H : ((culletlaw01_high.f kj8 (IntKind.u64.wrap (t134))).bind fun t142 => (some (decide (t140 < (wrap64 (t141 - t142)))))) = some r := H
                have A18 := Aside0.mk A180
                clear A180
                replace H := Option.bind_eq_some_iff.mp H
                obtain ⟨t142, A190, H⟩ := H
                replace H : (some (decide (t140 < (wrap64 (t141 - t142))))) = some r := H
                have A19 := Aside0.mk A190
                clear A190
                obtain rfl := Option.some.inj H
                go_wp2_with (first | ((with_reducible refine gate_callee (f := 16) rfl ?_); refine goesL_ (some 63) rfl rfl Try.func16 (by kernel_rfl) rfl #[.int .u64 (IntKind.u64.wrap (t135))] rfl (by (try simp only [List.map_toArray, List.map_cons, List.map_nil]); first | done | rfl | (simp only [List.length_drop, List.length_take]; rfl)) ?_; (with_reducible refine (culletlaw01_high.calls kj8 (IntKind.u64.wrap (t135)) t140 _ A17.out).mono ?_); rintro e w' ⟨rfl, ⟨nd, rfl⟩⟩; refine ⟨_, rfl, ?_⟩) | ((with_reducible refine gate_callee (f := 16) rfl ?_); refine goesL_ (some 66) rfl rfl Try.func16 (by kernel_rfl) rfl #[.int .u64 (IntKind.u64.wrap (a1))] rfl (by (try simp only [List.map_toArray, List.map_cons, List.map_nil]); first | done | rfl | (simp only [List.length_drop, List.length_take]; rfl)) ?_; (with_reducible refine (culletlaw01_high.calls kj8 (IntKind.u64.wrap (a1)) t141 _ A18.out).mono ?_); rintro e w' ⟨rfl, ⟨nd, rfl⟩⟩; refine ⟨_, rfl, ?_⟩) | ((with_reducible refine gate_callee (f := 16) rfl ?_); refine goesL_ (some 69) rfl rfl Try.func16 (by kernel_rfl) rfl #[.int .u64 (IntKind.u64.wrap (t134))] rfl (by (try simp only [List.map_toArray, List.map_cons, List.map_nil]); first | done | rfl | (simp only [List.length_drop, List.length_take]; rfl)) ?_; (with_reducible refine (culletlaw01_high.calls kj8 (IntKind.u64.wrap (t134)) t142 _ A19.out).mono ?_); rintro e w' ⟨rfl, ⟨nd, rfl⟩⟩; refine ⟨_, rfl, ?_⟩))
                go_ret
                exact ⟨by first | rfl | (simp; done) | (simp [*]; done), by repeat (first | exact Drawn0.refl _ | apply Drawn0.step)⟩

/-- THE ONE PURE STATEMENT of culletlaw01_RingBezout: yours. -/
def culletlaw01_RingBezout.Pure : Prop := ∀ (a0 : Int) (a1 : Int), (Lit.int .u32 a0).wf = true → (Lit.int .u32 a1).wf = true → ∃ k, culletlaw01_RingBezout.f k a0 a1 = some true
theorem culletlaw01_RingBezout.walk (P : culletlaw01_RingBezout.Pure) (a0 : Int) (a1 : Int) (w : World) (w0 : (Lit.int .u32 a0).wf = true) (w1 : (Lit.int .u32 a1).wf = true) :
    Calls Try.prog 5 #[.int .u32 a0, .int .u32 a1] w fun e w' => e = .returned (.bool true) ∧ Below w.heap.size w w' := by
  obtain ⟨k, h⟩ := P a0 a1 w0 w1
  refine (culletlaw01_RingBezout.calls k a0 a1 true w h).mono ?_
  rintro e w' ⟨rfl, hd⟩
  exact ⟨rfl, hd.below⟩

/-! ### ring_isModulus: function 27 -/
def ring_isModulus.f (a0 : Int) (a1 : Int) : Option (Bool) := (ring_Degree.f a0).bind fun t143 => (if t143 ≥ 1 then (some (decide (t143 ≤ a1))) else (some false))
set_option maxHeartbeats 8000000 in
set_option maxRecDepth 100000 in
theorem ring_isModulus.calls (a0 : Int) (a1 : Int) (r : Bool) (w : World) (h : ring_isModulus.f a0 a1 = some r) :
    Calls Try.prog 27 #[.int .u64 a0, .int .i64 a1] w fun e w' => e = .returned (.bool r) ∧ Drawn0 w w' := by
  have H : ((ring_Degree.f a0).bind fun t143 => (if t143 ≥ 1 then (some (decide (t143 ≤ a1))) else (some false))) = some r := h
  clear h
  replace H := Option.bind_eq_some_iff.mp H
  obtain ⟨t143, A30, H⟩ := H
  replace H : (if t143 ≥ 1 then (some (decide (t143 ≤ a1))) else (some false)) = some r := H
  have A3 := Aside0.mk A30
  clear A30
  by_cases c4 : t143 ≥ 1
  · rw [if_pos c4] at H
    have c4b0 : decide (1 ≤ t143) = true := decide_eq_true c4
    clear c4
    obtain rfl := Option.some.inj H
    go_enter Try.func27, Try.ntmps27
    go_wp2_with (first | ((with_reducible refine gate_callee (f := 26) rfl ?_); refine goesL_ (some 7) rfl rfl Try.func26 (by kernel_rfl) rfl #[.int .u64 a0] rfl (by (try simp only [List.map_toArray, List.map_cons, List.map_nil]); first | done | rfl | (simp only [List.length_drop, List.length_take]; rfl)) ?_; (with_reducible refine (ring_Degree.calls a0 t143 _ A3.out).mono ?_); rintro e w' ⟨rfl, ⟨nd, rfl⟩⟩; refine ⟨_, rfl, ?_⟩))
    go_ret
    exact ⟨by first | rfl | (simp; done) | (simp [*]; done), by repeat (first | exact Drawn0.refl _ | apply Drawn0.step)⟩
  · rw [if_neg c4] at H
    have c4b0 : decide (1 ≤ t143) = false := decide_eq_false c4
    clear c4
    obtain rfl := Option.some.inj H
    go_enter Try.func27, Try.ntmps27
    go_wp2_with (first | ((with_reducible refine gate_callee (f := 26) rfl ?_); refine goesL_ (some 7) rfl rfl Try.func26 (by kernel_rfl) rfl #[.int .u64 a0] rfl (by (try simp only [List.map_toArray, List.map_cons, List.map_nil]); first | done | rfl | (simp only [List.length_drop, List.length_take]; rfl)) ?_; (with_reducible refine (ring_Degree.calls a0 t143 _ A3.out).mono ?_); rintro e w' ⟨rfl, ⟨nd, rfl⟩⟩; refine ⟨_, rfl, ?_⟩))
    go_ret
    exact ⟨by first | rfl | (simp; done) | (simp [*]; done), by repeat (first | exact Drawn0.refl _ | apply Drawn0.step)⟩

end Go.Proofs.Ytilacemjflomfaa.Q
