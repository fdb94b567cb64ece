-- Printed for this claim by mp.py, a program of its prover, through the kit's print. Lean checks it.
import Derived.Test.YtilacemjflomfaaQx0
import Derived.Test.YtilacemjflomfaaQx1
import Derived.Test.YtilacemjflomfaaQx4
import Derived.Test.YtilacemjflomfaaQx5
namespace Go.Proofs.Ytilacemjflomfaa.Q
open Go.RowKit Go.Proofs.YtilacemjflomfaaW.PrintWords Go.Proofs.YtilacemjflomfaaW.PrintLast Go.Proofs.YtilacemjflomfaaW.PrintMore
attribute [local go_sem] max2_int min2_int max_two min_two max_three min_three max_four min_four   -- for this text's walks alone
set_option linter.unusedVariables false
set_option linter.unusedSimpArgs false

/-! ### ring_InvMod: function 23 -/
def ring_InvMod.l0 : Nat → Int → Int → Int → Int → Int → Option (Int × Int)
  | 0, _, _, _, _, _ => none
  | k + 1, x1, x7, x8, x9, x10 => if x7 = 0 then (if x8 = 1 then ((ring_divMod.f k x9 x1).bind fun bt230 => (some (bt230.2, 0))) else (some (0, 12))) else ((ring_divMod.f k x8 x7).bind fun bt232 => ((ring_mulMod.f k bt232.1 x10 x1).bind fun t234 => (ring_InvMod.l0 k x1 bt232.2 x7 x10 (Go.bits .xor .u64 x9 t234))))
def ring_InvMod.f (k : Nat) (a0 : Int) (a1 : Int) : Option (Int × Int) := (ring_isModulus.f a1 32).bind fun t227 => (if t227 = true then ((ring_divMod.f k a0 a1).bind fun bt228 => (ring_InvMod.l0 k a1 bt228.2 a1 0 1)) else (some (0, 11)))
theorem ring_InvMod.mono_l : ∀ k, (∀ y0 y1 y2 y3 y4, LeO (ring_InvMod.l0 k y0 y1 y2 y3 y4) (ring_InvMod.l0 (k + 1) y0 y1 y2 y3 y4))
  | 0 => fun _ _ _ _ _ r h => by simp [ring_InvMod.l0] at h
  | k + 1 => by
    have ih0 := ring_InvMod.mono_l k
    · intro y0 y1 y2 y3 y4
      unfold ring_InvMod.l0
      repeat' first
      | (with_reducible exact ih0 _ _ _ _ _)
      | (with_reducible exact ring_divMod.mono _ _ _)
      | (with_reducible exact ring_mulMod.mono _ _ _ _)
      | (with_reducible exact LeO.refl _)
      | (with_reducible exact LeO.none _)
      | (with_reducible refine LeO.ite ?_ ?_)
      | (with_reducible refine LeO.bind ?_ (fun _ => ?_))
      | exact ih0 _ _ _ _ _
      | exact ring_divMod.mono _ _ _
      | exact ring_mulMod.mono _ _ _ _
      | exact LeO.none _
      | refine LeO.ite ?_ ?_
      | refine LeO.bind ?_ (fun _ => ?_)
theorem ring_InvMod.mono : ∀ a0 a1 k, LeO (ring_InvMod.f k a0 a1) (ring_InvMod.f (k + 1) a0 a1) := by
  intro a0 a1 k
  have ih0 := ring_InvMod.mono_l k
  unfold ring_InvMod.f
  repeat' first
      | (with_reducible exact ih0 _ _ _ _ _)
      | (with_reducible exact ring_divMod.mono _ _ _)
      | (with_reducible exact ring_mulMod.mono _ _ _ _)
      | (with_reducible exact LeO.refl _)
      | (with_reducible exact LeO.none _)
      | (with_reducible refine LeO.ite ?_ ?_)
      | (with_reducible refine LeO.bind ?_ (fun _ => ?_))
      | exact ih0 _ _ _ _ _
      | exact ring_divMod.mono _ _ _
      | exact ring_mulMod.mono _ _ _ _
      | exact LeO.none _
      | refine LeO.ite ?_ ?_
      | refine LeO.bind ?_ (fun _ => ?_)
set_option maxHeartbeats 8000000 in
set_option maxRecDepth 100000 in
theorem ring_InvMod.calls (k : Nat) (a0 : Int) (a1 : Int) (r1 : Int) (r2 : Int) (w : World) (h : ring_InvMod.f k a0 a1 = some (r1, r2)) :
    Calls Try.prog 23 #[.int .u64 a0, .int .u64 a1] w fun e w' => e = .returned (.tuple #[.int .u64 r1, .int .i64 r2]) ∧ Drawn0 w w' := by
  have H : ((ring_isModulus.f a1 32).bind fun t227 => (if t227 = true then ((ring_divMod.f k a0 a1).bind fun bt228 => (ring_InvMod.l0 k a1 bt228.2 a1 0 1)) else (some (0, 11)))) = some (r1, r2) := h
  clear h
  replace H := Option.bind_eq_some_iff.mp H
  obtain ⟨t227, A30, H⟩ := H
  replace H : (if t227 = true then ((ring_divMod.f k a0 a1).bind fun bt228 => (ring_InvMod.l0 k a1 bt228.2 a1 0 1)) else (some (0, 11))) = some (r1, r2) := H
  have A3 := Aside0.mk A30
  clear A30
  by_cases c4 : t227 = true
  · subst c4
    have H1 : ((ring_divMod.f k a0 a1).bind fun bt228 => (ring_InvMod.l0 k a1 bt228.2 a1 0 1)) = some (r1, r2) := by rw [if_pos rfl] at H; exact H
    clear H
    have H := H1
    clear H1
    replace H := Option.bind_eq_some_iff.mp H
    obtain ⟨⟨t228, t229⟩, A50, H⟩ := H
    replace H : (ring_InvMod.l0 k a1 t229 a1 0 1) = some (r1, r2) := H
    have A5 := Aside0.mk A50
    clear A50
    have H' := Aside0.mk H
    clear H
    go_enter Try.func23, Try.ntmps23
    go_wp2_with (first | ((with_reducible refine gate_callee (f := 27) rfl ?_); refine goesL_ (some 14) rfl rfl Try.func27 (by kernel_rfl) rfl #[.int .u64 a1, .int .i64 32] rfl (by (try simp only [List.map_toArray, List.map_cons, List.map_nil]); first | done | rfl | (simp only [List.length_drop, List.length_take]; rfl)) ?_; (with_reducible refine (ring_isModulus.calls a1 32 true _ A3.out).mono ?_); rintro e w' ⟨rfl, ⟨nd, rfl⟩⟩; refine ⟨_, rfl, ?_⟩) | ((with_reducible refine gate_callee (f := 24) rfl ?_); refine goesL_ (some 19) rfl rfl Try.func24 (by kernel_rfl) rfl #[.int .u64 a0, .int .u64 a1] rfl (by (try simp only [List.map_toArray, List.map_cons, List.map_nil]); first | done | rfl | (simp only [List.length_drop, List.length_take]; rfl)) ?_; (with_reducible refine (ring_divMod.calls k a0 a1 t228 t229 _ A5.out).mono ?_); rintro e w' ⟨rfl, ⟨nd, rfl⟩⟩; refine ⟨_, rfl, ?_⟩))
    go_loopg [7, 8, 9, 10] k (fun kq v7 v8 v9 v10 w' => ∃ (x7_1 : Int) (x8_1 : Int) (x9_1 : Int) (x10_1 : Int), v7 = .int .u64 x7_1 ∧ v8 = .int .u64 x8_1 ∧ v9 = .int .u64 x9_1 ∧ v10 = .int .u64 x10_1 ∧ Aside0 (ring_InvMod.l0 kq a1 x7_1 x8_1 x9_1 x10_1 = some (r1, r2)) ∧ Aside0 (kq ≤ k) ∧ Drawn0 w w')
    case atStart => exact ⟨(t229), (a1), (0), (1), (by first | rfl | (simp; done) | (simp [*]; done)), (by first | rfl | (simp; done) | (simp [*]; done)), (by first | rfl | (simp; done) | (simp [*]; done)), (by first | rfl | (simp; done) | (simp [*]; done)), H', ⟨Nat.le_refl _⟩, by repeat (first | exact Drawn0.refl _ | apply Drawn0.step)⟩
    case round =>
      clear H'
      try clear c2
      try clear p2
      try clear c4
      obtain ⟨x7_1, x8_1, x9_1, x10_1, rfl, rfl, rfl, rfl, HA, HK1, ⟨m1, rfl⟩⟩ := hrel
      cases gk with
      | zero => exact absurd HA.out (by simp [ring_InvMod.l0])
      | succ k1 =>
        have H := HA.out
        clear HA
        simp only [ring_InvMod.l0] at H
        by_cases c6 : x7_1 = 0
        · rw [if_pos c6] at H
          have c6b0 : (x7_1 == 0) = true := beq_iff_eq.mpr c6
          have c6b1 : (x7_1 != 0) = false := bne_eq_false_iff_eq.mpr c6
          clear c6
          by_cases c7 : x8_1 = 1
          · rw [if_pos c7] at H
            have c7b0 : (x8_1 == 1) = true := beq_iff_eq.mpr c7
            have c7b1 : (x8_1 != 1) = false := bne_eq_false_iff_eq.mpr c7
            clear c7
            replace H := Option.bind_eq_some_iff.mp H
            obtain ⟨⟨t230, t231⟩, A80, H⟩ := H
            replace H : (some (t231, 0)) = some (r1, r2) := H
            have A8 := Aside0.mk A80
            clear A80
            simp only [Option.some.injEq, Prod.mk.injEq] at H
            obtain ⟨rfl, rfl⟩ := H
            go_wp2_with (first | ((with_reducible refine gate_callee (f := 24) rfl ?_); refine goesL_ (some 45) rfl rfl Try.func24 (by kernel_rfl) rfl #[.int .u64 x9_1, .int .u64 a1] rfl (by (try simp only [List.map_toArray, List.map_cons, List.map_nil]); first | done | rfl | (simp only [List.length_drop, List.length_take]; rfl)) ?_; (with_reducible refine (ring_divMod.calls k1 x9_1 a1 t230 t231 _ A8.out).mono ?_); rintro e w' ⟨rfl, ⟨nd, rfl⟩⟩; refine ⟨_, rfl, ?_⟩))
            go_ret2
            exact ⟨by first | rfl | (simp; done) | (simp [*]; done), by repeat (first | exact Drawn0.refl _ | apply Drawn0.step)⟩
          · rw [if_neg c7] at H
            have c7b0 : (x8_1 == 1) = false := beq_eq_false_iff_ne.mpr c7
            have c7b1 : (x8_1 != 1) = true := bne_iff_ne.mpr c7
            simp only [Option.some.injEq, Prod.mk.injEq] at H
            obtain ⟨rfl, rfl⟩ := H
            go_wp2
            go_ret2
            exact ⟨by first | rfl | (simp; done) | (simp [*]; done), by repeat (first | exact Drawn0.refl _ | apply Drawn0.step)⟩
        · rw [if_neg c6] at H
          have c6b0 : (x7_1 == 0) = false := beq_eq_false_iff_ne.mpr c6
          have c6b1 : (x7_1 != 0) = true := bne_iff_ne.mpr c6
          replace H := Option.bind_eq_some_iff.mp H
          obtain ⟨⟨t232, t233⟩, A90, H⟩ := H
          replace H : ((ring_mulMod.f k1 t232 x10_1 a1).bind fun t234 => (ring_InvMod.l0 k1 a1 t233 x7_1 x10_1 (Go.bits .xor .u64 x9_1 t234))) = some (r1, r2) := H
          have A9 := Aside0.mk A90
          clear A90
          replace H := Option.bind_eq_some_iff.mp H
          obtain ⟨t234, A100, H⟩ := H
          replace H : (ring_InvMod.l0 k1 a1 t233 x7_1 x10_1 (Go.bits .xor .u64 x9_1 t234)) = some (r1, r2) := H
          have A10 := Aside0.mk A100
          clear A100
          have H' := Aside0.mk H
          clear H
          go_wp2_with (first | ((with_reducible refine gate_callee (f := 24) rfl ?_); refine goesL_ (some 28) rfl rfl Try.func24 (by kernel_rfl) rfl #[.int .u64 x8_1, .int .u64 x7_1] rfl (by (try simp only [List.map_toArray, List.map_cons, List.map_nil]); first | done | rfl | (simp only [List.length_drop, List.length_take]; rfl)) ?_; (with_reducible refine (ring_divMod.calls k1 x8_1 x7_1 t232 t233 _ A9.out).mono ?_); rintro e w' ⟨rfl, ⟨nd, rfl⟩⟩; refine ⟨_, rfl, ?_⟩) | ((with_reducible refine gate_callee (f := 28) rfl ?_); refine goesL_ (some 38) rfl rfl Try.func28 (by kernel_rfl) rfl #[.int .u64 t232, .int .u64 x10_1, .int .u64 a1] rfl (by (try simp only [List.map_toArray, List.map_cons, List.map_nil]); first | done | rfl | (simp only [List.length_drop, List.length_take]; rfl)) ?_; (with_reducible refine (ring_mulMod.calls k1 t232 x10_1 a1 t234 _ A10.out).mono ?_); rintro e w' ⟨rfl, ⟨nd, rfl⟩⟩; refine ⟨_, rfl, ?_⟩))
          go_roundg k1
          case measure => have := HK1.out; omega
          case rel => exact ⟨(t233), (x7_1), (x10_1), (Go.bits .xor .u64 x9_1 t234), (by first | rfl | (simp; done) | (simp [*]; done)), (by first | rfl | (simp; done) | (simp [*]; done)), (by first | rfl | (simp; done) | (simp [*]; done)), (by first | rfl | (simp; done) | (simp [*]; done)), H', ⟨by have := HK1.out; omega⟩, by repeat (first | exact Drawn0.refl _ | apply Drawn0.step)⟩
  · replace c4 := Bool.eq_false_iff.mpr c4
    subst c4
    have H1 : (some (0, 11)) = some (r1, r2) := by rw [if_neg (show ¬ (false = true) by decide)] at H; exact H
    clear H
    have H := H1
    clear H1
    simp only [Option.some.injEq, Prod.mk.injEq] at H
    obtain ⟨rfl, rfl⟩ := H
    go_enter Try.func23, Try.ntmps23
    go_wp2_with (first | ((with_reducible refine gate_callee (f := 27) rfl ?_); refine goesL_ (some 14) rfl rfl Try.func27 (by kernel_rfl) rfl #[.int .u64 a1, .int .i64 32] rfl (by (try simp only [List.map_toArray, List.map_cons, List.map_nil]); first | done | rfl | (simp only [List.length_drop, List.length_take]; rfl)) ?_; (with_reducible refine (ring_isModulus.calls a1 32 false _ A3.out).mono ?_); rintro e w' ⟨rfl, ⟨nd, rfl⟩⟩; refine ⟨_, rfl, ?_⟩))
    go_ret2
    exact ⟨by first | rfl | (simp; done) | (simp [*]; done), by repeat (first | exact Drawn0.refl _ | apply Drawn0.step)⟩

end Go.Proofs.Ytilacemjflomfaa.Q
