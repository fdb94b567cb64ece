import Derived.Test.YthldahaimcdejaaDoorAx0
import Derived.Test.YthldahaimcdejaaDoorAx1
import Derived.Test.YthldahaimcdejaaDoorAx2
import Derived.Test.YthldahaimcdejaaDoorAx3
-- Printed for this claim by mp.py, a program of its prover, through the kit's print. Lean checks it.
namespace Go.Proofs.YthldahaimcdejaaDoor.A
open Go.RowKit Go.Proofs.YthldahaimcdejaaDoorW.PrintWords Go.Proofs.YthldahaimcdejaaDoorW.PrintLast Go.Proofs.YthldahaimcdejaaDoorW.PrintMore
attribute [local go_sem] max2_int min2_int max_two min_two max_three min_three max_four min_four   -- for this text's walks alone
set_option linter.unusedVariables false
set_option linter.unusedSimpArgs false

/-! ### ring_Order: function 36 -/
def ring_Order.l0 : Nat → Int → Int → Int → Int → Int → Option (Int × Int)
 | 0, _, _, _, _, _ => none
 | k + 1, x0, x1, x7, x9, x10 => if x9 = x7 then (some (x10, 0)) else ((ring_mulMod.f k x9 x0 x1).bind fun t150 => (ring_Order.l0 k x0 x1 x7 t150 (wrap64 (x10 + 1))))
def ring_Order.f (k : Nat) (a0 : Int) (a1 : Int) : Option (Int × Int) := (ring_isModulus.f a1 16).bind fun t144 => (if t144 = true then ((ring_Gcd.f k a0 a1).bind fun t145 => (if t145 = 1 then ((ring_divMod.f k 1 a1).bind fun bt146 => ((ring_divMod.f k a0 a1).bind fun bt148 => (ring_Order.l0 k a0 a1 bt146.2 bt148.2 1))) else (some (0, 12)))) else (some (0, 11)))
theorem ring_Order.mono_l : ∀ k, (∀ y0 y1 y2 y3 y4, LeO (ring_Order.l0 k y0 y1 y2 y3 y4) (ring_Order.l0 (k + 1) y0 y1 y2 y3 y4))
 | 0 => fun _ _ _ _ _ r h => by simp [ring_Order.l0] at h
 | k + 1 => by
  have ih0 := ring_Order.mono_l k
  ·intro y0 y1 y2 y3 y4
   unfold ring_Order.l0
   repeat' first
   | (with_reducible exact ih0 _ _ _ _ _)
   | (with_reducible exact ring_Gcd.mono _ _ _)
   | (with_reducible exact ring_divMod.mono _ _ _)
   | (with_reducible exact ring_mulMod.mono _ _ _ _)
   | (with_reducible exact LeO.refl _)
   | (with_reducible exact LeO.none _)
   | (with_reducible refine LeO.ite ?_ ?_)
   | (with_reducible refine LeO.bind ?_ (fun _ => ?_))
   | exact ih0 _ _ _ _ _
   | exact ring_Gcd.mono _ _ _
   | exact ring_divMod.mono _ _ _
   | exact ring_mulMod.mono _ _ _ _
   | exact LeO.none _
   | refine LeO.ite ?_ ?_
   | refine LeO.bind ?_ (fun _ => ?_)
theorem ring_Order.mono : ∀ a0 a1 k, LeO (ring_Order.f k a0 a1) (ring_Order.f (k + 1) a0 a1) := by
 intro a0 a1 k
 have ih0 := ring_Order.mono_l k
 unfold ring_Order.f
 repeat' first
   | (with_reducible exact ih0 _ _ _ _ _)
   | (with_reducible exact ring_Gcd.mono _ _ _)
   | (with_reducible exact ring_divMod.mono _ _ _)
   | (with_reducible exact ring_mulMod.mono _ _ _ _)
   | (with_reducible exact LeO.refl _)
   | (with_reducible exact LeO.none _)
   | (with_reducible refine LeO.ite ?_ ?_)
   | (with_reducible refine LeO.bind ?_ (fun _ => ?_))
   | exact ih0 _ _ _ _ _
   | exact ring_Gcd.mono _ _ _
   | exact ring_divMod.mono _ _ _
   | exact ring_mulMod.mono _ _ _ _
   | exact LeO.none _
   | refine LeO.ite ?_ ?_
   | refine LeO.bind ?_ (fun _ => ?_)
set_option maxHeartbeats 8000000 in
set_option maxRecDepth 100000 in
theorem ring_Order.calls (k : Nat) (a0 : Int) (a1 : Int) (r1 : Int) (r2 : Int) (w : World) (h : ring_Order.f k a0 a1 = some (r1, r2)) :
  Calls Tryd.prog 36 #[.int .u64 a0, .int .u64 a1] w fun e w' => e = .returned (.tuple #[.int .i64 r1, .int .i64 r2]) ∧ Drawn0 w w' := by
 have H : ((ring_isModulus.f a1 16).bind fun t144 => (if t144 = true then ((ring_Gcd.f k a0 a1).bind fun t145 => (if t145 = 1 then ((ring_divMod.f k 1 a1).bind fun bt146 => ((ring_divMod.f k a0 a1).bind fun bt148 => (ring_Order.l0 k a0 a1 bt146.2 bt148.2 1))) else (some (0, 12)))) else (some (0, 11)))) = some (r1, r2) := h
 clear h
 replace H := Option.bind_eq_some_iff.mp H
 obtain ⟨t144, A30, H⟩ := H
 replace H : (if t144 = true then ((ring_Gcd.f k a0 a1).bind fun t145 => (if t145 = 1 then ((ring_divMod.f k 1 a1).bind fun bt146 => ((ring_divMod.f k a0 a1).bind fun bt148 => (ring_Order.l0 k a0 a1 bt146.2 bt148.2 1))) else (some (0, 12)))) else (some (0, 11))) = some (r1, r2) := H
 have A3 := Aside0.mk A30
 clear A30
 by_cases c4 : t144 = true
 ·subst c4
  have H1 : ((ring_Gcd.f k a0 a1).bind fun t145 => (if t145 = 1 then ((ring_divMod.f k 1 a1).bind fun bt146 => ((ring_divMod.f k a0 a1).bind fun bt148 => (ring_Order.l0 k a0 a1 bt146.2 bt148.2 1))) else (some (0, 12)))) = some (r1, r2) := by rw [if_pos rfl] at H; exact H
  clear H
  have H := H1
  clear H1
  replace H := Option.bind_eq_some_iff.mp H
  obtain ⟨t145, A50, H⟩ := H
  replace H : (if t145 = 1 then ((ring_divMod.f k 1 a1).bind fun bt146 => ((ring_divMod.f k a0 a1).bind fun bt148 => (ring_Order.l0 k a0 a1 bt146.2 bt148.2 1))) else (some (0, 12))) = some (r1, r2) := H
  have A5 := Aside0.mk A50
  clear A50
  by_cases c6 : t145 = 1
  ·rw [if_pos c6] at H
   have c6b0 : (t145 == 1) = true := beq_iff_eq.mpr c6
   have c6b1 : (t145 != 1) = false := bne_eq_false_iff_eq.mpr c6
   clear c6
   replace H := Option.bind_eq_some_iff.mp H
   obtain ⟨⟨t146, t147⟩, A70, H⟩ := H
   replace H : ((ring_divMod.f k a0 a1).bind fun bt148 => (ring_Order.l0 k a0 a1 t147 bt148.2 1)) = some (r1, r2) := H
   have A7 := Aside0.mk A70
   clear A70
   replace H := Option.bind_eq_some_iff.mp H
   obtain ⟨⟨t148, t149⟩, A80, H⟩ := H
   replace H : (ring_Order.l0 k a0 a1 t147 t149 1) = some (r1, r2) := H
   have A8 := Aside0.mk A80
   clear A80
   have H' := Aside0.mk H
   clear H
   go_enter Tryd.func36, Tryd.ntmps36
   go_wp2_with (first | ((with_reducible refine gate_callee (f := 45) rfl ?_); refine goesL_ (some 12) rfl rfl Tryd.func45 (by kernel_rfl) rfl #[.int .u64 a1, .int .i64 16] rfl (by (try simp only [List.map_toArray, List.map_cons, List.map_nil]); first | done | rfl | (simp only [tb_wrap8]; done) | (simp only [tb_wrap8]; rfl) | (simp only [List.length_drop, List.length_take]; rfl)) ?_; (with_reducible refine (ring_isModulus.calls a1 16 true _ A3.out).mono ?_); rintro e w' ⟨rfl, ⟨nd, rfl⟩⟩; refine ⟨_, rfl, ?_⟩) | ((with_reducible refine gate_callee (f := 13) rfl ?_); refine goesL_ (some 16) rfl rfl Tryd.func13 (by kernel_rfl) rfl #[.int .u64 a0, .int .u64 a1] rfl (by (try simp only [List.map_toArray, List.map_cons, List.map_nil]); first | done | rfl | (simp only [tb_wrap8]; done) | (simp only [tb_wrap8]; rfl) | (simp only [List.length_drop, List.length_take]; rfl)) ?_; (with_reducible refine (ring_Gcd.calls k a0 a1 t145 _ A5.out).mono ?_); rintro e w' ⟨rfl, ⟨nd, rfl⟩⟩; refine ⟨_, rfl, ?_⟩) | ((with_reducible refine gate_callee (f := 28) rfl ?_); refine goesL_ (some 20) rfl rfl Tryd.func28 (by kernel_rfl) rfl #[.int .u64 1, .int .u64 a1] rfl (by (try simp only [List.map_toArray, List.map_cons, List.map_nil]); first | done | rfl | (simp only [tb_wrap8]; done) | (simp only [tb_wrap8]; rfl) | (simp only [List.length_drop, List.length_take]; rfl)) ?_; (with_reducible refine (ring_divMod.calls k 1 a1 t146 t147 _ A7.out).mono ?_); rintro e w' ⟨rfl, ⟨nd, rfl⟩⟩; refine ⟨_, rfl, ?_⟩) | ((with_reducible refine gate_callee (f := 28) rfl ?_); refine goesL_ (some 26) rfl rfl Tryd.func28 (by kernel_rfl) rfl #[.int .u64 a0, .int .u64 a1] rfl (by (try simp only [List.map_toArray, List.map_cons, List.map_nil]); first | done | rfl | (simp only [tb_wrap8]; done) | (simp only [tb_wrap8]; rfl) | (simp only [List.length_drop, List.length_take]; rfl)) ?_; (with_reducible refine (ring_divMod.calls k a0 a1 t148 t149 _ A8.out).mono ?_); rintro e w' ⟨rfl, ⟨nd, rfl⟩⟩; refine ⟨_, rfl, ?_⟩))
   go_loopg [9, 10] k (fun kq v9 v10 w' => ∃ (x9_1 : Int) (x10_1 : Int), v9 = .int .u64 x9_1 ∧ v10 = .int .i64 x10_1 ∧ Aside0 (ring_Order.l0 kq a0 a1 t147 x9_1 x10_1 = some (r1, r2)) ∧ Aside0 (kq ≤ k) ∧ Drawn0 w w')
   case atStart => exact ⟨(t149), (1), (by first | rfl | (simp; done) | (simp [*]; done)), (by first | rfl | (simp; done) | (simp [*]; done)), H', ⟨Nat.le_refl _⟩, by repeat (first | exact Drawn0.refl _ | apply Drawn0.step)⟩
   case round =>
    clear H'
    try clear c1
    try clear c2
    try clear p2
    try clear c3
    try clear c4
    try clear c6
    try clear c6b0
    try clear c6b1
    try clear p8
    obtain ⟨x9_1, x10_1, rfl, rfl, HA, HK1, ⟨m1, rfl⟩⟩ := hrel
    cases gk with
    | zero => exact absurd HA.out (by simp [ring_Order.l0])
    | succ k1 =>
     have H := HA.out
     clear HA
     simp only [ring_Order.l0] at H
     by_cases c9 : x9_1 = t147
     ·rw [if_pos c9] at H
      have c9b0 : (x9_1 == t147) = true := beq_iff_eq.mpr c9
      have c9b1 : (x9_1 != t147) = false := bne_eq_false_iff_eq.mpr c9
      clear c9
      simp only [Option.some.injEq, Prod.mk.injEq] at H
      obtain ⟨rfl, rfl⟩ := H
      go_wp2
      go_ret2
      exact ⟨by first | rfl | (simp; done) | (simp [*]; done), by repeat (first | exact Drawn0.refl _ | apply Drawn0.step)⟩
     ·rw [if_neg c9] at H
      have c9b0 : (x9_1 == t147) = false := beq_eq_false_iff_ne.mpr c9
      have c9b1 : (x9_1 != t147) = true := bne_iff_ne.mpr c9
      replace H := Option.bind_eq_some_iff.mp H
      obtain ⟨t150, A100, H⟩ := H
      replace H : (ring_Order.l0 k1 a0 a1 t147 t150 (wrap64 (x10_1 + 1))) = some (r1, r2) := H
      have A10 := Aside0.mk A100
      clear A100
      have H' := Aside0.mk H
      clear H
      go_wp2_with (first | ((with_reducible refine gate_callee (f := 46) rfl ?_); refine goesL_ (some 38) rfl rfl Tryd.func46 (by kernel_rfl) rfl #[.int .u64 x9_1, .int .u64 a0, .int .u64 a1] rfl (by (try simp only [List.map_toArray, List.map_cons, List.map_nil]); first | done | rfl | (simp only [tb_wrap8]; done) | (simp only [tb_wrap8]; rfl) | (simp only [List.length_drop, List.length_take]; rfl)) ?_; (with_reducible refine (ring_mulMod.calls k1 x9_1 a0 a1 t150 _ A10.out).mono ?_); rintro e w' ⟨rfl, ⟨nd, rfl⟩⟩; refine ⟨_, rfl, ?_⟩))
      go_roundg k1
      case measure => have := HK1.out; omega
      case rel => exact ⟨(t150), (wrap64 (x10_1 + 1)), (by first | rfl | (simp; done) | (simp [*]; done)), (by first | rfl | (simp; done) | (simp [*]; done)), H', ⟨by have := HK1.out; omega⟩, by repeat (first | exact Drawn0.refl _ | apply Drawn0.step)⟩
  ·rw [if_neg c6] at H
   have c6b0 : (t145 == 1) = false := beq_eq_false_iff_ne.mpr c6
   have c6b1 : (t145 != 1) = true := bne_iff_ne.mpr c6
   simp only [Option.some.injEq, Prod.mk.injEq] at H
   obtain ⟨rfl, rfl⟩ := H
   go_enter Tryd.func36, Tryd.ntmps36
   go_wp2_with (first | ((with_reducible refine gate_callee (f := 45) rfl ?_); refine goesL_ (some 12) rfl rfl Tryd.func45 (by kernel_rfl) rfl #[.int .u64 a1, .int .i64 16] rfl (by (try simp only [List.map_toArray, List.map_cons, List.map_nil]); first | done | rfl | (simp only [tb_wrap8]; done) | (simp only [tb_wrap8]; rfl) | (simp only [List.length_drop, List.length_take]; rfl)) ?_; (with_reducible refine (ring_isModulus.calls a1 16 true _ A3.out).mono ?_); rintro e w' ⟨rfl, ⟨nd, rfl⟩⟩; refine ⟨_, rfl, ?_⟩) | ((with_reducible refine gate_callee (f := 13) rfl ?_); refine goesL_ (some 16) rfl rfl Tryd.func13 (by kernel_rfl) rfl #[.int .u64 a0, .int .u64 a1] rfl (by (try simp only [List.map_toArray, List.map_cons, List.map_nil]); first | done | rfl | (simp only [tb_wrap8]; done) | (simp only [tb_wrap8]; rfl) | (simp only [List.length_drop, List.length_take]; rfl)) ?_; (with_reducible refine (ring_Gcd.calls k a0 a1 t145 _ A5.out).mono ?_); rintro e w' ⟨rfl, ⟨nd, rfl⟩⟩; refine ⟨_, rfl, ?_⟩))
   go_ret2
   exact ⟨by first | rfl | (simp; done) | (simp [*]; done), by repeat (first | exact Drawn0.refl _ | apply Drawn0.step)⟩
 ·replace c4 := Bool.eq_false_iff.mpr c4
  subst c4
  have H1 : (some (0, 11)) = some (r1, r2) := by rw [if_neg (show ¬ (false = true) by decide)] at H; exact H
  clear H
  have H := H1
  clear H1
  simp only [Option.some.injEq, Prod.mk.injEq] at H
  obtain ⟨rfl, rfl⟩ := H
  go_enter Tryd.func36, Tryd.ntmps36
  go_wp2_with (first | ((with_reducible refine gate_callee (f := 45) rfl ?_); refine goesL_ (some 12) rfl rfl Tryd.func45 (by kernel_rfl) rfl #[.int .u64 a1, .int .i64 16] rfl (by (try simp only [List.map_toArray, List.map_cons, List.map_nil]); first | done | rfl | (simp only [tb_wrap8]; done) | (simp only [tb_wrap8]; rfl) | (simp only [List.length_drop, List.length_take]; rfl)) ?_; (with_reducible refine (ring_isModulus.calls a1 16 false _ A3.out).mono ?_); rintro e w' ⟨rfl, ⟨nd, rfl⟩⟩; refine ⟨_, rfl, ?_⟩))
  go_ret2
  exact ⟨by first | rfl | (simp; done) | (simp [*]; done), by repeat (first | exact Drawn0.refl _ | apply Drawn0.step)⟩

/-! ### ring_Primitive: function 38 -/
def ring_Primitive.f (k : Nat) (a0 : Int) : Option (Bool × Int) := (ring_isModulus.f a0 16).bind fun t151 => (if t151 = true then ((ring_Irreducible.f k a0).bind fun bt152 => (if bt152.1 = true then ((ring_Order.f k 2 a0).bind fun bt154 => (if bt154.2 = 0 then ((ring_Degree.f a0).bind fun t156 => (if 0 ≤ t156 then (some ((bt154.1 == (wrap64 ((shl .i64 1 t156) - 1))), 0)) else (none))) else (some (false, 0)))) else (some (false, 0)))) else (some (false, 11)))
theorem ring_Primitive.mono : ∀ a0 k, LeO (ring_Primitive.f k a0) (ring_Primitive.f (k + 1) a0) := by
 intro a0 k
 unfold ring_Primitive.f
 repeat' first
   | (with_reducible exact ring_Irreducible.mono _ _)
   | (with_reducible exact ring_Order.mono _ _ _)
   | (with_reducible exact LeO.refl _)
   | (with_reducible exact LeO.none _)
   | (with_reducible refine LeO.ite ?_ ?_)
   | (with_reducible refine LeO.bind ?_ (fun _ => ?_))
   | exact ring_Irreducible.mono _ _
   | exact ring_Order.mono _ _ _
   | exact LeO.none _
   | refine LeO.ite ?_ ?_
   | refine LeO.bind ?_ (fun _ => ?_)
set_option maxHeartbeats 8000000 in
set_option maxRecDepth 100000 in
theorem ring_Primitive.calls (k : Nat) (a0 : Int) (r1 : Bool) (r2 : Int) (w : World) (h : ring_Primitive.f k a0 = some (r1, r2)) :
  Calls Tryd.prog 38 #[.int .u64 a0] w fun e w' => e = .returned (.tuple #[.bool r1, .int .i64 r2]) ∧ Drawn0 w w' := by
 have H : ((ring_isModulus.f a0 16).bind fun t151 => (if t151 = true then ((ring_Irreducible.f k a0).bind fun bt152 => (if bt152.1 = true then ((ring_Order.f k 2 a0).bind fun bt154 => (if bt154.2 = 0 then ((ring_Degree.f a0).bind fun t156 => (if 0 ≤ t156 then (some ((bt154.1 == (wrap64 ((shl .i64 1 t156) - 1))), 0)) else (none))) else (some (false, 0)))) else (some (false, 0)))) else (some (false, 11)))) = some (r1, r2) := h
 clear h
 replace H := Option.bind_eq_some_iff.mp H
 obtain ⟨t151, A20, H⟩ := H
 replace H : (if t151 = true then ((ring_Irreducible.f k a0).bind fun bt152 => (if bt152.1 = true then ((ring_Order.f k 2 a0).bind fun bt154 => (if bt154.2 = 0 then ((ring_Degree.f a0).bind fun t156 => (if 0 ≤ t156 then (some ((bt154.1 == (wrap64 ((shl .i64 1 t156) - 1))), 0)) else (none))) else (some (false, 0)))) else (some (false, 0)))) else (some (false, 11))) = some (r1, r2) := H
 have A2 := Aside0.mk A20
 clear A20
 by_cases c3 : t151 = true
 ·subst c3
  have H1 : ((ring_Irreducible.f k a0).bind fun bt152 => (if bt152.1 = true then ((ring_Order.f k 2 a0).bind fun bt154 => (if bt154.2 = 0 then ((ring_Degree.f a0).bind fun t156 => (if 0 ≤ t156 then (some ((bt154.1 == (wrap64 ((shl .i64 1 t156) - 1))), 0)) else (none))) else (some (false, 0)))) else (some (false, 0)))) = some (r1, r2) := by rw [if_pos rfl] at H; exact H
  clear H
  have H := H1
  clear H1
  replace H := Option.bind_eq_some_iff.mp H
  obtain ⟨⟨t152, t153⟩, A40, H⟩ := H
  replace H : (if t152 = true then ((ring_Order.f k 2 a0).bind fun bt154 => (if bt154.2 = 0 then ((ring_Degree.f a0).bind fun t156 => (if 0 ≤ t156 then (some ((bt154.1 == (wrap64 ((shl .i64 1 t156) - 1))), 0)) else (none))) else (some (false, 0)))) else (some (false, 0))) = some (r1, r2) := H
  have A4 := Aside0.mk A40
  clear A40
  by_cases c5 : t152 = true
  ·subst c5
   have H1 : ((ring_Order.f k 2 a0).bind fun bt154 => (if bt154.2 = 0 then ((ring_Degree.f a0).bind fun t156 => (if 0 ≤ t156 then (some ((bt154.1 == (wrap64 ((shl .i64 1 t156) - 1))), 0)) else (none))) else (some (false, 0)))) = some (r1, r2) := by rw [if_pos rfl] at H; exact H
   clear H
   have H := H1
   clear H1
   replace H := Option.bind_eq_some_iff.mp H
   obtain ⟨⟨t154, t155⟩, A60, H⟩ := H
   replace H : (if t155 = 0 then ((ring_Degree.f a0).bind fun t156 => (if 0 ≤ t156 then (some ((t154 == (wrap64 ((shl .i64 1 t156) - 1))), 0)) else (none))) else (some (false, 0))) = some (r1, r2) := H
   have A6 := Aside0.mk A60
   clear A60
   by_cases c7 : t155 = 0
   ·rw [if_pos c7] at H
    have c7b0 : (t155 == 0) = true := beq_iff_eq.mpr c7
    have c7b1 : (t155 != 0) = false := bne_eq_false_iff_eq.mpr c7
    clear c7
    replace H := Option.bind_eq_some_iff.mp H
    obtain ⟨t156, A80, H⟩ := H
    replace H : (if 0 ≤ t156 then (some ((t154 == (wrap64 ((shl .i64 1 t156) - 1))), 0)) else (none)) = some (r1, r2) := H
    have A8 := Aside0.mk A80
    clear A80
    by_cases c9 : 0 ≤ t156
    ·rw [if_pos c9] at H
     have c9b0 := eq_true c9
     have c9b1 : decide (0 ≤ t156) = true := decide_eq_true c9
     clear c9
     obtain ⟨ji10, hji10⟩ : ∃ j_ : Int, (shl .i64 1 t156) = j_ := ⟨_, rfl⟩
     replace H : (some ((t154 == (wrap64 ((ji10) - 1))), 0)) = some (r1, r2) := by first | (rw [hji10] at H; exact H) | (simp only [hji10] at H ⊢; exact H)
     (try rw [hji10] at A2)
     (try rw [hji10] at A4)
     (try rw [hji10] at A6)
     (try rw [hji10] at A8)
     have hji10_ : (IntKind.i64.wrap (1 * 2 ^ min t156.toNat 64)) = ji10 := hji10
     have hji10z : t156 ≤ 64 → (IntKind.i64.wrap (1 * 2 ^ t156.toNat)) = ji10 := shl_small hji10
     have hji10u : (IntKind.i64.wrap (2 ^ min t156.toNat 64)) = ji10 := by have h_ := hji10_; rw [Int.one_mul] at h_; exact h_
     have hji10v : t156 ≤ 64 → (IntKind.i64.wrap (2 ^ t156.toNat)) = ji10 := fun hle_ => by have h_ := hji10z hle_; rw [Int.one_mul] at h_; exact h_
     have hji10y : (wrap64 (1 * 2 ^ min t156.toNat 64)) = ji10 := (i64_w _).symm.trans hji10_
     have hji10x : t156 ≤ 64 → (wrap64 (1 * 2 ^ t156.toNat)) = ji10 := fun h_ => (i64_w _).symm.trans (hji10z h_)
     simp only [Option.some.injEq, Prod.mk.injEq] at H
     obtain ⟨rfl, rfl⟩ := H
     go_enter Tryd.func38, Tryd.ntmps38
     go_wp2_with (first | ((with_reducible refine gate_callee (f := 45) rfl ?_); refine goesL_ (some 9) rfl rfl Tryd.func45 (by kernel_rfl) rfl #[.int .u64 a0, .int .i64 16] rfl (by (try simp only [List.map_toArray, List.map_cons, List.map_nil]); first | done | rfl | (simp only [tb_wrap8]; done) | (simp only [tb_wrap8]; rfl) | (simp only [List.length_drop, List.length_take]; rfl)) ?_; (with_reducible refine (ring_isModulus.calls a0 16 true _ A2.out).mono ?_); rintro e w' ⟨rfl, ⟨nd, rfl⟩⟩; refine ⟨_, rfl, ?_⟩) | ((with_reducible refine gate_callee (f := 34) rfl ?_); refine goesL_ (some 13) rfl rfl Tryd.func34 (by kernel_rfl) rfl #[.int .u64 a0] rfl (by (try simp only [List.map_toArray, List.map_cons, List.map_nil]); first | done | rfl | (simp only [tb_wrap8]; done) | (simp only [tb_wrap8]; rfl) | (simp only [List.length_drop, List.length_take]; rfl)) ?_; (with_reducible refine (ring_Irreducible.calls k a0 true t153 _ A4.out).mono ?_); rintro e w' ⟨rfl, ⟨nd, rfl⟩⟩; refine ⟨_, rfl, ?_⟩) | ((with_reducible refine gate_callee (f := 36) rfl ?_); refine goesL_ (some 20) rfl rfl Tryd.func36 (by kernel_rfl) rfl #[.int .u64 2, .int .u64 a0] rfl (by (try simp only [List.map_toArray, List.map_cons, List.map_nil]); first | done | rfl | (simp only [tb_wrap8]; done) | (simp only [tb_wrap8]; rfl) | (simp only [List.length_drop, List.length_take]; rfl)) ?_; (with_reducible refine (ring_Order.calls k 2 a0 t154 t155 _ A6.out).mono ?_); rintro e w' ⟨rfl, ⟨nd, rfl⟩⟩; refine ⟨_, rfl, ?_⟩) | (go_at_call 17; (with_reducible refine (ring_Degree.calls a0 t156 _ A8.out).mono ?_); rintro e w' ⟨rfl, ⟨nd, rfl⟩⟩))
     go_ret2
     exact ⟨by first | rfl | (simp; done) | (simp only [← hji10] <;> (first | rfl | simp)) | (simp [*]; done), by repeat (first | exact Drawn0.refl _ | apply Drawn0.step)⟩
    ·rw [if_neg c9] at H
     exact absurd H (by simp)
   ·rw [if_neg c7] at H
    have c7b0 : (t155 == 0) = false := beq_eq_false_iff_ne.mpr c7
    have c7b1 : (t155 != 0) = true := bne_iff_ne.mpr c7
    simp only [Option.some.injEq, Prod.mk.injEq] at H
    obtain ⟨rfl, rfl⟩ := H
    go_enter Tryd.func38, Tryd.ntmps38
    go_wp2_with (first | ((with_reducible refine gate_callee (f := 45) rfl ?_); refine goesL_ (some 9) rfl rfl Tryd.func45 (by kernel_rfl) rfl #[.int .u64 a0, .int .i64 16] rfl (by (try simp only [List.map_toArray, List.map_cons, List.map_nil]); first | done | rfl | (simp only [tb_wrap8]; done) | (simp only [tb_wrap8]; rfl) | (simp only [List.length_drop, List.length_take]; rfl)) ?_; (with_reducible refine (ring_isModulus.calls a0 16 true _ A2.out).mono ?_); rintro e w' ⟨rfl, ⟨nd, rfl⟩⟩; refine ⟨_, rfl, ?_⟩) | ((with_reducible refine gate_callee (f := 34) rfl ?_); refine goesL_ (some 13) rfl rfl Tryd.func34 (by kernel_rfl) rfl #[.int .u64 a0] rfl (by (try simp only [List.map_toArray, List.map_cons, List.map_nil]); first | done | rfl | (simp only [tb_wrap8]; done) | (simp only [tb_wrap8]; rfl) | (simp only [List.length_drop, List.length_take]; rfl)) ?_; (with_reducible refine (ring_Irreducible.calls k a0 true t153 _ A4.out).mono ?_); rintro e w' ⟨rfl, ⟨nd, rfl⟩⟩; refine ⟨_, rfl, ?_⟩) | ((with_reducible refine gate_callee (f := 36) rfl ?_); refine goesL_ (some 20) rfl rfl Tryd.func36 (by kernel_rfl) rfl #[.int .u64 2, .int .u64 a0] rfl (by (try simp only [List.map_toArray, List.map_cons, List.map_nil]); first | done | rfl | (simp only [tb_wrap8]; done) | (simp only [tb_wrap8]; rfl) | (simp only [List.length_drop, List.length_take]; rfl)) ?_; (with_reducible refine (ring_Order.calls k 2 a0 t154 t155 _ A6.out).mono ?_); rintro e w' ⟨rfl, ⟨nd, rfl⟩⟩; refine ⟨_, rfl, ?_⟩))
    go_ret2
    exact ⟨by first | rfl | (simp; done) | (simp [*]; done), by repeat (first | exact Drawn0.refl _ | apply Drawn0.step)⟩
  ·replace c5 := Bool.eq_false_iff.mpr c5
   subst c5
   have H1 : (some (false, 0)) = some (r1, r2) := by rw [if_neg (show ¬ (false = true) by decide)] at H; exact H
   clear H
   have H := H1
   clear H1
   simp only [Option.some.injEq, Prod.mk.injEq] at H
   obtain ⟨rfl, rfl⟩ := H
   go_enter Tryd.func38, Tryd.ntmps38
   go_wp2_with (first | ((with_reducible refine gate_callee (f := 45) rfl ?_); refine goesL_ (some 9) rfl rfl Tryd.func45 (by kernel_rfl) rfl #[.int .u64 a0, .int .i64 16] rfl (by (try simp only [List.map_toArray, List.map_cons, List.map_nil]); first | done | rfl | (simp only [tb_wrap8]; done) | (simp only [tb_wrap8]; rfl) | (simp only [List.length_drop, List.length_take]; rfl)) ?_; (with_reducible refine (ring_isModulus.calls a0 16 true _ A2.out).mono ?_); rintro e w' ⟨rfl, ⟨nd, rfl⟩⟩; refine ⟨_, rfl, ?_⟩) | ((with_reducible refine gate_callee (f := 34) rfl ?_); refine goesL_ (some 13) rfl rfl Tryd.func34 (by kernel_rfl) rfl #[.int .u64 a0] rfl (by (try simp only [List.map_toArray, List.map_cons, List.map_nil]); first | done | rfl | (simp only [tb_wrap8]; done) | (simp only [tb_wrap8]; rfl) | (simp only [List.length_drop, List.length_take]; rfl)) ?_; (with_reducible refine (ring_Irreducible.calls k a0 false t153 _ A4.out).mono ?_); rintro e w' ⟨rfl, ⟨nd, rfl⟩⟩; refine ⟨_, rfl, ?_⟩))
   go_ret2
   exact ⟨by first | rfl | (simp; done) | (simp [*]; done), by repeat (first | exact Drawn0.refl _ | apply Drawn0.step)⟩
 ·replace c3 := Bool.eq_false_iff.mpr c3
  subst c3
  have H1 : (some (false, 11)) = some (r1, r2) := by rw [if_neg (show ¬ (false = true) by decide)] at H; exact H
  clear H
  have H := H1
  clear H1
  simp only [Option.some.injEq, Prod.mk.injEq] at H
  obtain ⟨rfl, rfl⟩ := H
  go_enter Tryd.func38, Tryd.ntmps38
  go_wp2_with (first | ((with_reducible refine gate_callee (f := 45) rfl ?_); refine goesL_ (some 9) rfl rfl Tryd.func45 (by kernel_rfl) rfl #[.int .u64 a0, .int .i64 16] rfl (by (try simp only [List.map_toArray, List.map_cons, List.map_nil]); first | done | rfl | (simp only [tb_wrap8]; done) | (simp only [tb_wrap8]; rfl) | (simp only [List.length_drop, List.length_take]; rfl)) ?_; (with_reducible refine (ring_isModulus.calls a0 16 false _ A2.out).mono ?_); rintro e w' ⟨rfl, ⟨nd, rfl⟩⟩; refine ⟨_, rfl, ?_⟩))
  go_ret2
  exact ⟨by first | rfl | (simp; done) | (simp [*]; done), by repeat (first | exact Drawn0.refl _ | apply Drawn0.step)⟩

/-! ### culletlaw01_awake: function 10 -/
def culletlaw01_awake.j0 : Nat → Bool → Option (Bool)
 | 0, _ => none
 | k + 1, x20 => if x20 = true then (some false) else ((ring_MulMod.f k 128 2 285).bind fun bt160 => (if bt160.1 = 29 then (if bt160.2 = 0 then ((ring_Degree.f 5).bind fun t162 => (if t162 = 2 then ((ring_Mul.f k 3 3).bind fun t163 => (some (t163 == 5))) else (some false))) else (some false)) else (some false)))
def culletlaw01_awake.f (k : Nat)  : Option (Bool) := (ring_DivMod.f k 285 2).bind fun bt157 => (if bt157.1 = 142 then (if bt157.2.1 = 1 then (culletlaw01_awake.j0 k (bt157.2.2 != 0)) else (culletlaw01_awake.j0 k true)) else (culletlaw01_awake.j0 k true))
theorem culletlaw01_awake.mono_l : ∀ k, (∀ y0, LeO (culletlaw01_awake.j0 k y0) (culletlaw01_awake.j0 (k + 1) y0))
 | 0 => fun _ r h => by simp [culletlaw01_awake.j0] at h
 | k + 1 => by
  have ih0 := culletlaw01_awake.mono_l k
  ·intro y0
   unfold culletlaw01_awake.j0
   repeat' first
   | (with_reducible exact ih0 _)
   | (with_reducible exact ring_DivMod.mono _ _ _)
   | (with_reducible exact ring_Mul.mono _ _ _)
   | (with_reducible exact ring_MulMod.mono _ _ _ _)
   | (with_reducible exact LeO.refl _)
   | (with_reducible exact LeO.none _)
   | (with_reducible refine LeO.ite ?_ ?_)
   | (with_reducible refine LeO.bind ?_ (fun _ => ?_))
   | exact ih0 _
   | exact ring_DivMod.mono _ _ _
   | exact ring_Mul.mono _ _ _
   | exact ring_MulMod.mono _ _ _ _
   | exact LeO.none _
   | refine LeO.ite ?_ ?_
   | refine LeO.bind ?_ (fun _ => ?_)
theorem culletlaw01_awake.mono : ∀ k, LeO (culletlaw01_awake.f k ) (culletlaw01_awake.f (k + 1) ) := by
 intro  k
 have ih0 := culletlaw01_awake.mono_l k
 unfold culletlaw01_awake.f
 repeat' first
   | (with_reducible exact ih0 _)
   | (with_reducible exact ring_DivMod.mono _ _ _)
   | (with_reducible exact ring_Mul.mono _ _ _)
   | (with_reducible exact ring_MulMod.mono _ _ _ _)
   | (with_reducible exact LeO.refl _)
   | (with_reducible exact LeO.none _)
   | (with_reducible refine LeO.ite ?_ ?_)
   | (with_reducible refine LeO.bind ?_ (fun _ => ?_))
   | exact ih0 _
   | exact ring_DivMod.mono _ _ _
   | exact ring_Mul.mono _ _ _
   | exact ring_MulMod.mono _ _ _ _
   | exact LeO.none _
   | refine LeO.ite ?_ ?_
   | refine LeO.bind ?_ (fun _ => ?_)
set_option maxHeartbeats 8000000 in
set_option maxRecDepth 100000 in
theorem culletlaw01_awake.calls (k : Nat)  (r : Bool) (w : World) (h : culletlaw01_awake.f k  = some r) :
  Calls Tryd.prog 10 #[] w fun e w' => e = .returned (.bool r) ∧ Drawn0 w w' := by
 have H : ((ring_DivMod.f k 285 2).bind fun bt157 => (if bt157.1 = 142 then (if bt157.2.1 = 1 then (culletlaw01_awake.j0 k (bt157.2.2 != 0)) else (culletlaw01_awake.j0 k true)) else (culletlaw01_awake.j0 k true))) = some r := h
 clear h
 replace H := Option.bind_eq_some_iff.mp H
 obtain ⟨⟨t157, t158, t159⟩, A10, H⟩ := H
 replace H : (if t157 = 142 then (if t158 = 1 then (culletlaw01_awake.j0 k (t159 != 0)) else (culletlaw01_awake.j0 k true)) else (culletlaw01_awake.j0 k true)) = some r := H
 have A1 := Aside0.mk A10
 clear A10
 have HC2 := Aside0.mk H
 clear H
 go_enter Tryd.func10, Tryd.ntmps10
 go_upto_region 2 with (first | ((with_reducible refine gate_callee (f := 21) rfl ?_); refine goesL_ (some 7) rfl rfl Tryd.func21 (by kernel_rfl) rfl #[.int .u64 285, .int .u64 2] rfl (by (try simp only [List.map_toArray, List.map_cons, List.map_nil]); first | done | rfl | (simp only [tb_wrap8]; done) | (simp only [tb_wrap8]; rfl) | (simp only [List.length_drop, List.length_take]; rfl)) ?_; (with_reducible refine (ring_DivMod.calls k 285 2 t157 t158 t159 _ A1.out).mono ?_); rintro e w' ⟨rfl, ⟨nd, rfl⟩⟩; refine ⟨_, rfl, ?_⟩))
 (try simp only [Act.put, List.setIfInBounds_toArray, List.set_cons_zero, List.set_cons_succ])
 go_cut [20] (fun v20 wc => ∃ (kq : Nat) (x20_1 : Bool), v20 = .bool x20_1 ∧ Aside0 (culletlaw01_awake.j0 kq x20_1 = some r) ∧ Aside0 (kq ≤ k) ∧ Drawn0 w wc)
 case first =>
  have H := HC2.out
  clear HC2
  by_cases c3 : t157 = 142
  ·rw [if_pos c3] at H
   have c3b0 : (t157 == 142) = true := beq_iff_eq.mpr c3
   have c3b1 : (t157 != 142) = false := bne_eq_false_iff_eq.mpr c3
   clear c3
   (first | rw [c3b0] | (simp only [i64_w, i32_w]; rw [c3b0]) | skip)
   by_cases c4 : t158 = 1
   ·rw [if_pos c4] at H
    have c4b0 : (t158 == 1) = true := beq_iff_eq.mpr c4
    have c4b1 : (t158 != 1) = false := bne_eq_false_iff_eq.mpr c4
    clear c4
    have H' := Aside0.mk H
    clear H
    go_wp2
    go_meet
    case rel => exact ⟨_, ((t159 != 0)), (by first | rfl | (simp; done) | (simp [*]; done)), H', ⟨by first | omega | exact Nat.le_refl _⟩, by repeat (first | exact Drawn0.refl _ | apply Drawn0.step)⟩
   ·rw [if_neg c4] at H
    have c4b0 : (t158 == 1) = false := beq_eq_false_iff_ne.mpr c4
    have c4b1 : (t158 != 1) = true := bne_iff_ne.mpr c4
    have H' := Aside0.mk H
    clear H
    go_wp2
    go_meet
    case rel => exact ⟨_, (true), (by first | rfl | (simp; done) | (simp [*]; done)), H', ⟨by first | omega | exact Nat.le_refl _⟩, by repeat (first | exact Drawn0.refl _ | apply Drawn0.step)⟩
  ·rw [if_neg c3] at H
   have c3b0 : (t157 == 142) = false := beq_eq_false_iff_ne.mpr c3
   have c3b1 : (t157 != 142) = true := bne_iff_ne.mpr c3
   (first | rw [c3b0] | (simp only [i64_w, i32_w]; rw [c3b0]) | skip)
   have H' := Aside0.mk H
   clear H
   go_wp2
   go_meet
   case rel => exact ⟨_, (true), (by first | rfl | (simp; done) | (simp [*]; done)), H', ⟨by first | omega | exact Nat.le_refl _⟩, by repeat (first | exact Drawn0.refl _ | apply Drawn0.step)⟩
 case rest =>
  clear HC2
  try clear c1
  try clear c2
  try clear p2
  try clear c3
  try clear c3b0
  try clear c3b1
  try clear c4
  try clear c4b0
  try clear c4b1
  obtain ⟨kq, x20_1, rfl, HA, HJ1, ⟨mc1, rfl⟩⟩ := hcut
  cases kq with
  | zero => exact absurd HA.out (by simp [culletlaw01_awake.j0])
  | succ kj1 =>
   have H := HA.out
   clear HA
   simp only [culletlaw01_awake.j0] at H
   by_cases c5 : x20_1 = true
   ·subst c5
    have H1 : (some false) = some r := by rw [if_pos rfl] at H; exact H
    clear H
    have H := H1
    clear H1
    obtain rfl := Option.some.inj H
    go_wp2
    go_ret
    exact ⟨by first | rfl | (simp; done) | (simp [*]; done), by repeat (first | exact Drawn0.refl _ | apply Drawn0.step)⟩
   ·replace c5 := Bool.eq_false_iff.mpr c5
    subst c5
    have H1 : ((ring_MulMod.f kj1 128 2 285).bind fun bt160 => (if bt160.1 = 29 then (if bt160.2 = 0 then ((ring_Degree.f 5).bind fun t162 => (if t162 = 2 then ((ring_Mul.f kj1 3 3).bind fun t163 => (some (t163 == 5))) else (some false))) else (some false)) else (some false))) = some r := by rw [if_neg (show ¬ (false = true) by decide)] at H; exact H
    clear H
    have H := H1
    clear H1
    replace H := Option.bind_eq_some_iff.mp H
    obtain ⟨⟨t160, t161⟩, A60, H⟩ := H
    replace H : (if t160 = 29 then (if t161 = 0 then ((ring_Degree.f 5).bind fun t162 => (if t162 = 2 then ((ring_Mul.f kj1 3 3).bind fun t163 => (some (t163 == 5))) else (some false))) else (some false)) else (some false)) = some r := H
    have A6 := Aside0.mk A60
    clear A60
    by_cases c7 : t160 = 29
    ·rw [if_pos c7] at H
     have c7b0 : (t160 == 29) = true := beq_iff_eq.mpr c7
     have c7b1 : (t160 != 29) = false := bne_eq_false_iff_eq.mpr c7
     clear c7
     by_cases c8 : t161 = 0
     ·rw [if_pos c8] at H
      have c8b0 : (t161 == 0) = true := beq_iff_eq.mpr c8
      have c8b1 : (t161 != 0) = false := bne_eq_false_iff_eq.mpr c8
      clear c8
      replace H := Option.bind_eq_some_iff.mp H
      obtain ⟨t162, A90, H⟩ := H
      replace H : (if t162 = 2 then ((ring_Mul.f kj1 3 3).bind fun t163 => (some (t163 == 5))) else (some false)) = some r := H
      have A9 := Aside0.mk A90
      clear A90
      by_cases c10 : t162 = 2
      ·rw [if_pos c10] at H
       have c10b0 : (t162 == 2) = true := beq_iff_eq.mpr c10
       have c10b1 : (t162 != 2) = false := bne_eq_false_iff_eq.mpr c10
       clear c10
       replace H := Option.bind_eq_some_iff.mp H
       obtain ⟨t163, A110, H⟩ := H
       replace H : (some (t163 == 5)) = some r := H
       have A11 := Aside0.mk A110
       clear A110
       obtain rfl := Option.some.inj H
       go_wp2_with (first | ((with_reducible refine gate_callee (f := 23) rfl ?_); refine goesL_ (some 22) rfl rfl Tryd.func23 (by kernel_rfl) rfl #[.int .u64 128, .int .u64 2, .int .u64 285] rfl (by (try simp only [List.map_toArray, List.map_cons, List.map_nil]); first | done | rfl | (simp only [tb_wrap8]; done) | (simp only [tb_wrap8]; rfl) | (simp only [List.length_drop, List.length_take]; rfl)) ?_; (with_reducible refine (ring_MulMod.calls kj1 128 2 285 t160 t161 _ A6.out).mono ?_); rintro e w' ⟨rfl, ⟨nd, rfl⟩⟩; refine ⟨_, rfl, ?_⟩) | (go_at_call 17; (with_reducible refine (ring_Degree.calls 5 t162 _ A9.out).mono ?_); rintro e w' ⟨rfl, ⟨nd, rfl⟩⟩) | (go_at_call 19; (with_reducible refine (ring_Mul.calls kj1 3 3 t163 _ A11.out).mono ?_); rintro e w' ⟨rfl, ⟨nd, rfl⟩⟩))
       go_ret
       exact ⟨by first | rfl | (simp; done) | (simp [*]; done), by repeat (first | exact Drawn0.refl _ | apply Drawn0.step)⟩
      ·rw [if_neg c10] at H
       have c10b0 : (t162 == 2) = false := beq_eq_false_iff_ne.mpr c10
       have c10b1 : (t162 != 2) = true := bne_iff_ne.mpr c10
       obtain rfl := Option.some.inj H
       go_wp2_with (first | ((with_reducible refine gate_callee (f := 23) rfl ?_); refine goesL_ (some 22) rfl rfl Tryd.func23 (by kernel_rfl) rfl #[.int .u64 128, .int .u64 2, .int .u64 285] rfl (by (try simp only [List.map_toArray, List.map_cons, List.map_nil]); first | done | rfl | (simp only [tb_wrap8]; done) | (simp only [tb_wrap8]; rfl) | (simp only [List.length_drop, List.length_take]; rfl)) ?_; (with_reducible refine (ring_MulMod.calls kj1 128 2 285 t160 t161 _ A6.out).mono ?_); rintro e w' ⟨rfl, ⟨nd, rfl⟩⟩; refine ⟨_, rfl, ?_⟩) | (go_at_call 17; (with_reducible refine (ring_Degree.calls 5 t162 _ A9.out).mono ?_); rintro e w' ⟨rfl, ⟨nd, rfl⟩⟩))
       go_ret
       exact ⟨by first | rfl | (simp; done) | (simp [*]; done), by repeat (first | exact Drawn0.refl _ | apply Drawn0.step)⟩
     ·rw [if_neg c8] at H
      have c8b0 : (t161 == 0) = false := beq_eq_false_iff_ne.mpr c8
      have c8b1 : (t161 != 0) = true := bne_iff_ne.mpr c8
      obtain rfl := Option.some.inj H
      go_wp2_with (first | ((with_reducible refine gate_callee (f := 23) rfl ?_); refine goesL_ (some 22) rfl rfl Tryd.func23 (by kernel_rfl) rfl #[.int .u64 128, .int .u64 2, .int .u64 285] rfl (by (try simp only [List.map_toArray, List.map_cons, List.map_nil]); first | done | rfl | (simp only [tb_wrap8]; done) | (simp only [tb_wrap8]; rfl) | (simp only [List.length_drop, List.length_take]; rfl)) ?_; (with_reducible refine (ring_MulMod.calls kj1 128 2 285 t160 t161 _ A6.out).mono ?_); rintro e w' ⟨rfl, ⟨nd, rfl⟩⟩; refine ⟨_, rfl, ?_⟩))
      go_ret
      exact ⟨by first | rfl | (simp; done) | (simp [*]; done), by repeat (first | exact Drawn0.refl _ | apply Drawn0.step)⟩
    ·rw [if_neg c7] at H
     have c7b0 : (t160 == 29) = false := beq_eq_false_iff_ne.mpr c7
     have c7b1 : (t160 != 29) = true := bne_iff_ne.mpr c7
     obtain rfl := Option.some.inj H
     go_wp2_with (first | ((with_reducible refine gate_callee (f := 23) rfl ?_); refine goesL_ (some 22) rfl rfl Tryd.func23 (by kernel_rfl) rfl #[.int .u64 128, .int .u64 2, .int .u64 285] rfl (by (try simp only [List.map_toArray, List.map_cons, List.map_nil]); first | done | rfl | (simp only [tb_wrap8]; done) | (simp only [tb_wrap8]; rfl) | (simp only [List.length_drop, List.length_take]; rfl)) ?_; (with_reducible refine (ring_MulMod.calls kj1 128 2 285 t160 t161 _ A6.out).mono ?_); rintro e w' ⟨rfl, ⟨nd, rfl⟩⟩; refine ⟨_, rfl, ?_⟩))
     go_ret
     exact ⟨by first | rfl | (simp; done) | (simp [*]; done), by repeat (first | exact Drawn0.refl _ | apply Drawn0.step)⟩

end Go.Proofs.YthldahaimcdejaaDoor.A
