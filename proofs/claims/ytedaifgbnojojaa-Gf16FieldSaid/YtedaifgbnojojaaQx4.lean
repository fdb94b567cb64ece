-- Printed for this claim by mp.py, a program of its prover, through the kit's print. Lean checks it.
import Derived.Test.YtedaifgbnojojaaQx0
import Derived.Test.YtedaifgbnojojaaQx3
namespace Go.Proofs.Ytedaifgbnojojaa.Q
open Go.RowKit Go.Proofs.YtedaifgbnojojaaW.PrintWords Go.Proofs.YtedaifgbnojojaaW.PrintLast Go.Proofs.YtedaifgbnojojaaW.PrintMore
attribute [local go_sem] max2_int min2_int max_two min_two max_three min_three max_four min_four   -- for this text's walks alone
set_option linter.unusedVariables false
set_option linter.unusedSimpArgs false

/-! ### culletlaw03_Gf16Field: function 4 -/
mutual
def culletlaw03_Gf16Field.j0 : Nat → Int → Int → Int → Int → Bool → Option (Bool)
  | 0, _, _, _, _, _ => none
  | k + 1, x0, x1, x2, x7, x32 => if x32 = true then (some false) else ((gf16_Mul.f k x0 (Go.bits .xor .u16 x1 x2)).bind fun t145 => ((gf16_Mul.f k x0 x2).bind fun t146 => (if t145 = (Go.bits .xor .u16 x7 t146) then ((gf16_Mul.f k x0 1).bind fun t147 => (if t147 = x0 then ((gf16_Mul.f k x0 0).bind fun t148 => (culletlaw03_Gf16Field.j1 k x0 x1 x7 (t148 != 0))) else (culletlaw03_Gf16Field.j1 k x0 x1 x7 true))) else (culletlaw03_Gf16Field.j1 k x0 x1 x7 true))))
def culletlaw03_Gf16Field.j1 : Nat → Int → Int → Int → Bool → Option (Bool)
  | 0, _, _, _, _ => none
  | k + 1, x0, x1, x7, x54 => if x54 = true then (some false) else (if x0 = 0 then (culletlaw03_Gf16Field.j2 k x0 x1 ((x7 == 0) != true)) else (culletlaw03_Gf16Field.j2 k x0 x1 ((x7 == 0) != (x1 == 0))))
def culletlaw03_Gf16Field.j2 : Nat → Int → Int → Bool → Option (Bool)
  | 0, _, _, _ => none
  | k + 1, x0, x1, x63 => if x63 = true then (some false) else ((gf16_Inv.f k x1).bind fun bt149 => ((gf16_Div.f k x0 x1).bind fun bt151 => (if x1 = 0 then (if bt149.1 = 0 then (if bt151.1 = 0 then (if bt149.2 = 20 then (some (bt151.2 == 20)) else (some false)) else (some false)) else (some false)) else (if bt149.2 = 0 then (if bt151.2 = 0 then ((gf16_Mul.f k x1 bt149.1).bind fun t153 => (if t153 = 1 then ((gf16_Mul.f k bt151.1 x1).bind fun t154 => (if t154 = x0 then ((gf16_Mul.f k x0 bt149.1).bind fun t155 => (some (bt151.1 == t155))) else (some false))) else (some false))) else (some false)) else (some false)))))
end
def culletlaw03_Gf16Field.f (k : Nat) (a0 : Int) (a1 : Int) (a2 : Int) : Option (Bool) := (culletlaw03_fixed.f k).bind fun t139 => (if t139 = true then ((gf16_Mul.f k a0 a1).bind fun t140 => ((gf16_Mul.f k a1 a0).bind fun t141 => (if t140 = t141 then ((gf16_Mul.f k t140 a2).bind fun t142 => ((gf16_Mul.f k a1 a2).bind fun t143 => ((gf16_Mul.f k a0 t143).bind fun t144 => (culletlaw03_Gf16Field.j0 k a0 a1 a2 t140 (t142 != t144))))) else (culletlaw03_Gf16Field.j0 k a0 a1 a2 t140 true)))) else (some false))
theorem culletlaw03_Gf16Field.mono_l : ∀ k, (∀ y0 y1 y2 y3 y4, LeO (culletlaw03_Gf16Field.j0 k y0 y1 y2 y3 y4) (culletlaw03_Gf16Field.j0 (k + 1) y0 y1 y2 y3 y4)) ∧ (∀ y0 y1 y2 y3, LeO (culletlaw03_Gf16Field.j1 k y0 y1 y2 y3) (culletlaw03_Gf16Field.j1 (k + 1) y0 y1 y2 y3)) ∧ (∀ y0 y1 y2, LeO (culletlaw03_Gf16Field.j2 k y0 y1 y2) (culletlaw03_Gf16Field.j2 (k + 1) y0 y1 y2))
  | 0 => ⟨fun _ _ _ _ _ r h => by simp [culletlaw03_Gf16Field.j0] at h, fun _ _ _ _ r h => by simp [culletlaw03_Gf16Field.j1] at h, fun _ _ _ r h => by simp [culletlaw03_Gf16Field.j2] at h⟩
  | k + 1 => by
    obtain ⟨ih0, ih1, ih2⟩ := culletlaw03_Gf16Field.mono_l k
    refine ⟨?_, ?_, ?_⟩
    · intro y0 y1 y2 y3 y4
      unfold culletlaw03_Gf16Field.j0
      repeat' first
      | (with_reducible exact ih0 _ _ _ _ _)
      | (with_reducible exact ih1 _ _ _ _)
      | (with_reducible exact ih2 _ _ _)
      | (with_reducible exact culletlaw03_fixed.mono _)
      | (with_reducible exact gf16_Div.mono _ _ _)
      | (with_reducible exact gf16_Inv.mono _ _)
      | (with_reducible exact gf16_Mul.mono _ _ _)
      | (with_reducible exact LeO.refl _)
      | (with_reducible exact LeO.none _)
      | (with_reducible refine LeO.ite ?_ ?_)
      | (with_reducible refine LeO.bind ?_ (fun _ => ?_))
      | exact ih0 _ _ _ _ _
      | exact ih1 _ _ _ _
      | exact ih2 _ _ _
      | exact culletlaw03_fixed.mono _
      | exact gf16_Div.mono _ _ _
      | exact gf16_Inv.mono _ _
      | exact gf16_Mul.mono _ _ _
      | exact LeO.none _
      | refine LeO.ite ?_ ?_
      | refine LeO.bind ?_ (fun _ => ?_)
    · intro y0 y1 y2 y3
      unfold culletlaw03_Gf16Field.j1
      repeat' first
      | (with_reducible exact ih0 _ _ _ _ _)
      | (with_reducible exact ih1 _ _ _ _)
      | (with_reducible exact ih2 _ _ _)
      | (with_reducible exact culletlaw03_fixed.mono _)
      | (with_reducible exact gf16_Div.mono _ _ _)
      | (with_reducible exact gf16_Inv.mono _ _)
      | (with_reducible exact gf16_Mul.mono _ _ _)
      | (with_reducible exact LeO.refl _)
      | (with_reducible exact LeO.none _)
      | (with_reducible refine LeO.ite ?_ ?_)
      | (with_reducible refine LeO.bind ?_ (fun _ => ?_))
      | exact ih0 _ _ _ _ _
      | exact ih1 _ _ _ _
      | exact ih2 _ _ _
      | exact culletlaw03_fixed.mono _
      | exact gf16_Div.mono _ _ _
      | exact gf16_Inv.mono _ _
      | exact gf16_Mul.mono _ _ _
      | exact LeO.none _
      | refine LeO.ite ?_ ?_
      | refine LeO.bind ?_ (fun _ => ?_)
    · intro y0 y1 y2
      unfold culletlaw03_Gf16Field.j2
      repeat' first
      | (with_reducible exact ih0 _ _ _ _ _)
      | (with_reducible exact ih1 _ _ _ _)
      | (with_reducible exact ih2 _ _ _)
      | (with_reducible exact culletlaw03_fixed.mono _)
      | (with_reducible exact gf16_Div.mono _ _ _)
      | (with_reducible exact gf16_Inv.mono _ _)
      | (with_reducible exact gf16_Mul.mono _ _ _)
      | (with_reducible exact LeO.refl _)
      | (with_reducible exact LeO.none _)
      | (with_reducible refine LeO.ite ?_ ?_)
      | (with_reducible refine LeO.bind ?_ (fun _ => ?_))
      | exact ih0 _ _ _ _ _
      | exact ih1 _ _ _ _
      | exact ih2 _ _ _
      | exact culletlaw03_fixed.mono _
      | exact gf16_Div.mono _ _ _
      | exact gf16_Inv.mono _ _
      | exact gf16_Mul.mono _ _ _
      | exact LeO.none _
      | refine LeO.ite ?_ ?_
      | refine LeO.bind ?_ (fun _ => ?_)
theorem culletlaw03_Gf16Field.mono : ∀ a0 a1 a2 k, LeO (culletlaw03_Gf16Field.f k a0 a1 a2) (culletlaw03_Gf16Field.f (k + 1) a0 a1 a2) := by
  intro a0 a1 a2 k
  obtain ⟨ih0, ih1, ih2⟩ := culletlaw03_Gf16Field.mono_l k
  unfold culletlaw03_Gf16Field.f
  repeat' first
      | (with_reducible exact ih0 _ _ _ _ _)
      | (with_reducible exact ih1 _ _ _ _)
      | (with_reducible exact ih2 _ _ _)
      | (with_reducible exact culletlaw03_fixed.mono _)
      | (with_reducible exact gf16_Div.mono _ _ _)
      | (with_reducible exact gf16_Inv.mono _ _)
      | (with_reducible exact gf16_Mul.mono _ _ _)
      | (with_reducible exact LeO.refl _)
      | (with_reducible exact LeO.none _)
      | (with_reducible refine LeO.ite ?_ ?_)
      | (with_reducible refine LeO.bind ?_ (fun _ => ?_))
      | exact ih0 _ _ _ _ _
      | exact ih1 _ _ _ _
      | exact ih2 _ _ _
      | exact culletlaw03_fixed.mono _
      | exact gf16_Div.mono _ _ _
      | exact gf16_Inv.mono _ _
      | exact gf16_Mul.mono _ _ _
      | exact LeO.none _
      | refine LeO.ite ?_ ?_
      | refine LeO.bind ?_ (fun _ => ?_)
set_option maxHeartbeats 8000000 in
set_option maxRecDepth 100000 in
theorem culletlaw03_Gf16Field.calls (k : Nat) (a0 : Int) (a1 : Int) (a2 : Int) (r : Bool) (w : World) (h : culletlaw03_Gf16Field.f k a0 a1 a2 = some r) :
    Calls Try.prog 4 #[.int .u16 a0, .int .u16 a1, .int .u16 a2] w fun e w' => e = .returned (.bool r) ∧ Drawn0 w w' := by
  have H : ((culletlaw03_fixed.f k).bind fun t139 => (if t139 = true then ((gf16_Mul.f k a0 a1).bind fun t140 => ((gf16_Mul.f k a1 a0).bind fun t141 => (if t140 = t141 then ((gf16_Mul.f k t140 a2).bind fun t142 => ((gf16_Mul.f k a1 a2).bind fun t143 => ((gf16_Mul.f k a0 t143).bind fun t144 => (culletlaw03_Gf16Field.j0 k a0 a1 a2 t140 (t142 != t144))))) else (culletlaw03_Gf16Field.j0 k a0 a1 a2 t140 true)))) else (some false))) = some r := h
  clear h
  replace H := Option.bind_eq_some_iff.mp H
  obtain ⟨t139, A40, H⟩ := H
  replace H : (if t139 = true then ((gf16_Mul.f k a0 a1).bind fun t140 => ((gf16_Mul.f k a1 a0).bind fun t141 => (if t140 = t141 then ((gf16_Mul.f k t140 a2).bind fun t142 => ((gf16_Mul.f k a1 a2).bind fun t143 => ((gf16_Mul.f k a0 t143).bind fun t144 => (culletlaw03_Gf16Field.j0 k a0 a1 a2 t140 (t142 != t144))))) else (culletlaw03_Gf16Field.j0 k a0 a1 a2 t140 true)))) else (some false)) = some r := H
  have A4 := Aside0.mk A40
  clear A40
  by_cases c5 : t139 = true
  · subst c5
    have H1 : ((gf16_Mul.f k a0 a1).bind fun t140 => ((gf16_Mul.f k a1 a0).bind fun t141 => (if t140 = t141 then ((gf16_Mul.f k t140 a2).bind fun t142 => ((gf16_Mul.f k a1 a2).bind fun t143 => ((gf16_Mul.f k a0 t143).bind fun t144 => (culletlaw03_Gf16Field.j0 k a0 a1 a2 t140 (t142 != t144))))) else (culletlaw03_Gf16Field.j0 k a0 a1 a2 t140 true)))) = some r := by rw [if_pos rfl] at H; exact H
    clear H
    have H := H1
    clear H1
    replace H := Option.bind_eq_some_iff.mp H
    obtain ⟨t140, A60, H⟩ := H
    replace H : ((gf16_Mul.f k a1 a0).bind fun t141 => (if t140 = t141 then ((gf16_Mul.f k t140 a2).bind fun t142 => ((gf16_Mul.f k a1 a2).bind fun t143 => ((gf16_Mul.f k a0 t143).bind fun t144 => (culletlaw03_Gf16Field.j0 k a0 a1 a2 t140 (t142 != t144))))) else (culletlaw03_Gf16Field.j0 k a0 a1 a2 t140 true))) = some r := H
    have A6 := Aside0.mk A60
    clear A60
    have HC7 := Aside0.mk H
    clear H
    go_enter Try.func4, Try.ntmps4
    go_upto_region 4 with (first | ((with_reducible refine gate_callee (f := 17) rfl ?_); refine goesL_ (some 12) rfl rfl Try.func17 (by kernel_rfl) rfl #[] rfl (by (try simp only [List.map_toArray, List.map_cons, List.map_nil]); first | done | rfl | (simp only [List.length_drop, List.length_take]; rfl)) ?_; (with_reducible refine (culletlaw03_fixed.calls k  true _ A4.out).mono ?_); rintro e w' ⟨rfl, ⟨nd, rfl⟩⟩; refine ⟨_, rfl, ?_⟩) | ((with_reducible refine gate_callee (f := 18) rfl ?_); refine goesL_ (some 16) rfl rfl Try.func18 (by kernel_rfl) rfl #[.int .u16 a0, .int .u16 a1] rfl (by (try simp only [List.map_toArray, List.map_cons, List.map_nil]); first | done | rfl | (simp only [List.length_drop, List.length_take]; rfl)) ?_; (with_reducible refine (gf16_Mul.calls k a0 a1 t140 _ A6.out).mono ?_); rintro e w' ⟨rfl, ⟨nd, rfl⟩⟩; refine ⟨_, rfl, ?_⟩))
    (try simp only [Act.put, List.setIfInBounds_toArray, List.set_cons_zero, List.set_cons_succ])
    go_cut [32] (fun v32 wc => ∃ (kq : Nat) (x32_6 : Bool), v32 = .bool x32_6 ∧ Aside0 (culletlaw03_Gf16Field.j0 kq a0 a1 a2 t140 x32_6 = some r) ∧ Aside0 (kq ≤ k) ∧ Drawn0 w wc)
    case first =>
      have H := HC7.out
      clear HC7
      replace H := Option.bind_eq_some_iff.mp H
      obtain ⟨t141, A80, H⟩ := H
      replace H : (if t140 = t141 then ((gf16_Mul.f k t140 a2).bind fun t142 => ((gf16_Mul.f k a1 a2).bind fun t143 => ((gf16_Mul.f k a0 t143).bind fun t144 => (culletlaw03_Gf16Field.j0 k a0 a1 a2 t140 (t142 != t144))))) else (culletlaw03_Gf16Field.j0 k a0 a1 a2 t140 true)) = some r := H
      have A8 := Aside0.mk A80
      clear A80
      by_cases c9 : t140 = t141
      · rw [if_pos c9] at H
        have c9b0 : (t140 == t141) = true := beq_iff_eq.mpr c9
        have c9b1 : (t140 != t141) = false := bne_eq_false_iff_eq.mpr c9
        clear c9
        (first | rw [c9b0] | (simp only [i64_w, i32_w]; rw [c9b0]) | skip)
        replace H := Option.bind_eq_some_iff.mp H
        obtain ⟨t142, A100, H⟩ := H
        replace H : ((gf16_Mul.f k a1 a2).bind fun t143 => ((gf16_Mul.f k a0 t143).bind fun t144 => (culletlaw03_Gf16Field.j0 k a0 a1 a2 t140 (t142 != t144)))) = some r := H
        have A10 := Aside0.mk A100
        clear A100
        replace H := Option.bind_eq_some_iff.mp H
        obtain ⟨t143, A110, H⟩ := H
        replace H : ((gf16_Mul.f k a0 t143).bind fun t144 => (culletlaw03_Gf16Field.j0 k a0 a1 a2 t140 (t142 != t144))) = some r := H
        have A11 := Aside0.mk A110
        clear A110
        replace H := Option.bind_eq_some_iff.mp H
        obtain ⟨t144, A120, H⟩ := H
        replace H : (culletlaw03_Gf16Field.j0 k a0 a1 a2 t140 (t142 != t144)) = some r := H
        have A12 := Aside0.mk A120
        clear A120
        have H' := Aside0.mk H
        clear H
        go_wp2_with (first | ((with_reducible refine gate_callee (f := 18) rfl ?_); refine goesL_ (some 20) rfl rfl Try.func18 (by kernel_rfl) rfl #[.int .u16 a1, .int .u16 a0] rfl (by (try simp only [List.map_toArray, List.map_cons, List.map_nil]); first | done | rfl | (simp only [List.length_drop, List.length_take]; rfl)) ?_; (with_reducible refine (gf16_Mul.calls k a1 a0 t141 _ A8.out).mono ?_); rintro e w' ⟨rfl, ⟨nd, rfl⟩⟩; refine ⟨_, rfl, ?_⟩) | (go_at_call 18; (with_reducible refine (gf16_Mul.calls k t140 a2 t142 _ A10.out).mono ?_); rintro e w' ⟨rfl, ⟨nd, rfl⟩⟩) | (go_at_call 18; (with_reducible refine (gf16_Mul.calls k a1 a2 t143 _ A11.out).mono ?_); rintro e w' ⟨rfl, ⟨nd, rfl⟩⟩) | (go_at_call 18; (with_reducible refine (gf16_Mul.calls k a0 t143 t144 _ A12.out).mono ?_); rintro e w' ⟨rfl, ⟨nd, rfl⟩⟩))
        go_meet
        case rel => exact ⟨_, ((t142 != t144)), (by first | rfl | (simp; done) | (simp [*]; done)), H', ⟨by first | omega | exact Nat.le_refl _⟩, by repeat (first | exact Drawn0.refl _ | apply Drawn0.step)⟩
      · rw [if_neg c9] at H
        have c9b0 : (t140 == t141) = false := beq_eq_false_iff_ne.mpr c9
        have c9b1 : (t140 != t141) = true := bne_iff_ne.mpr c9
        (first | rw [c9b0] | (simp only [i64_w, i32_w]; rw [c9b0]) | skip)
        have H' := Aside0.mk H
        clear H
        go_wp2_with (first | ((with_reducible refine gate_callee (f := 18) rfl ?_); refine goesL_ (some 20) rfl rfl Try.func18 (by kernel_rfl) rfl #[.int .u16 a1, .int .u16 a0] rfl (by (try simp only [List.map_toArray, List.map_cons, List.map_nil]); first | done | rfl | (simp only [List.length_drop, List.length_take]; rfl)) ?_; (with_reducible refine (gf16_Mul.calls k a1 a0 t141 _ A8.out).mono ?_); rintro e w' ⟨rfl, ⟨nd, rfl⟩⟩; refine ⟨_, rfl, ?_⟩))
        go_meet
        case rel => exact ⟨_, (true), (by first | rfl | (simp; done) | (simp [*]; done)), H', ⟨by first | omega | exact Nat.le_refl _⟩, by repeat (first | exact Drawn0.refl _ | apply Drawn0.step)⟩
    case rest =>
      clear HC7
      try clear c1
      try clear p2
      try clear c4
      try clear c5
      try clear c9
      try clear c9b0
      try clear c9b1
      obtain ⟨kq, x32_6, rfl, HA, HJ6, ⟨mc6, rfl⟩⟩ := hcut
      cases kq with
      | zero => exact absurd HA.out (by simp [culletlaw03_Gf16Field.j0])
      | succ kj6 =>
        have H := HA.out
        clear HA
        simp only [culletlaw03_Gf16Field.j0] at H
        by_cases c13 : x32_6 = true
        · subst c13
          have H1 : (some false) = some r := by rw [if_pos rfl] at H; exact H
          clear H
          have H := H1
          clear H1
          obtain rfl := Option.some.inj H
          go_wp2
          go_ret
          exact ⟨by first | rfl | (simp; done) | (simp [*]; done), by repeat (first | exact Drawn0.refl _ | apply Drawn0.step)⟩
        · replace c13 := Bool.eq_false_iff.mpr c13
          subst c13
          have H1 : ((gf16_Mul.f kj6 a0 (Go.bits .xor .u16 a1 a2)).bind fun t145 => ((gf16_Mul.f kj6 a0 a2).bind fun t146 => (if t145 = (Go.bits .xor .u16 t140 t146) then ((gf16_Mul.f kj6 a0 1).bind fun t147 => (if t147 = a0 then ((gf16_Mul.f kj6 a0 0).bind fun t148 => (culletlaw03_Gf16Field.j1 kj6 a0 a1 t140 (t148 != 0))) else (culletlaw03_Gf16Field.j1 kj6 a0 a1 t140 true))) else (culletlaw03_Gf16Field.j1 kj6 a0 a1 t140 true)))) = some r := by rw [if_neg (show ¬ (false = true) by decide)] at H; exact H
          clear H
          have H := H1
          clear H1
          have HC14 := Aside0.mk H
          clear H
          go_upto_region 6 with (fail)
          go_cut [54] (fun v54 wc => ∃ (kq : Nat) (x54_13 : Bool), v54 = .bool x54_13 ∧ Aside0 (culletlaw03_Gf16Field.j1 kq a0 a1 t140 x54_13 = some r) ∧ Aside0 (kq ≤ kj6) ∧ Drawn0 w wc)
          case first =>
            have H := HC14.out
            clear HC14
            replace H := Option.bind_eq_some_iff.mp H
            obtain ⟨t145, A150, H⟩ := H
            replace H : ((gf16_Mul.f kj6 a0 a2).bind fun t146 => (if t145 = (Go.bits .xor .u16 t140 t146) then ((gf16_Mul.f kj6 a0 1).bind fun t147 => (if t147 = a0 then ((gf16_Mul.f kj6 a0 0).bind fun t148 => (culletlaw03_Gf16Field.j1 kj6 a0 a1 t140 (t148 != 0))) else (culletlaw03_Gf16Field.j1 kj6 a0 a1 t140 true))) else (culletlaw03_Gf16Field.j1 kj6 a0 a1 t140 true))) = some r := H
            have A15 := Aside0.mk A150
            clear A150
            replace H := Option.bind_eq_some_iff.mp H
            obtain ⟨t146, A160, H⟩ := H
            replace H : (if t145 = (Go.bits .xor .u16 t140 t146) then ((gf16_Mul.f kj6 a0 1).bind fun t147 => (if t147 = a0 then ((gf16_Mul.f kj6 a0 0).bind fun t148 => (culletlaw03_Gf16Field.j1 kj6 a0 a1 t140 (t148 != 0))) else (culletlaw03_Gf16Field.j1 kj6 a0 a1 t140 true))) else (culletlaw03_Gf16Field.j1 kj6 a0 a1 t140 true)) = some r := H
            have A16 := Aside0.mk A160
            clear A160
            by_cases c17 : t145 = (Go.bits .xor .u16 t140 t146)
            · rw [if_pos c17] at H
              have c17b0 : (t145 == (Go.bits .xor .u16 t140 t146)) = true := beq_iff_eq.mpr c17
              have c17b1 : (t145 != (Go.bits .xor .u16 t140 t146)) = false := bne_eq_false_iff_eq.mpr c17
              clear c17
              (first | rw [c17b0] | (simp only [i64_w, i32_w]; rw [c17b0]) | skip)
              replace H := Option.bind_eq_some_iff.mp H
              obtain ⟨t147, A180, H⟩ := H
              replace H : (if t147 = a0 then ((gf16_Mul.f kj6 a0 0).bind fun t148 => (culletlaw03_Gf16Field.j1 kj6 a0 a1 t140 (t148 != 0))) else (culletlaw03_Gf16Field.j1 kj6 a0 a1 t140 true)) = some r := H
              have A18 := Aside0.mk A180
              clear A180
              by_cases c19 : t147 = a0
              · rw [if_pos c19] at H
                have c19b0 : (t147 == a0) = true := beq_iff_eq.mpr c19
                have c19b1 : (t147 != a0) = false := bne_eq_false_iff_eq.mpr c19
                clear c19
                replace H := Option.bind_eq_some_iff.mp H
                obtain ⟨t148, A200, H⟩ := H
                replace H : (culletlaw03_Gf16Field.j1 kj6 a0 a1 t140 (t148 != 0)) = some r := H
                have A20 := Aside0.mk A200
                clear A200
                have H' := Aside0.mk H
                clear H
                go_wp2_with (first | ((with_reducible refine gate_callee (f := 18) rfl ?_); refine goesL_ (some 37) rfl rfl Try.func18 (by kernel_rfl) rfl #[.int .u16 a0, .int .u16 (Go.bits .xor .u16 a1 a2)] rfl (by (try simp only [List.map_toArray, List.map_cons, List.map_nil]); first | done | rfl | (simp only [List.length_drop, List.length_take]; rfl)) ?_; (with_reducible refine (gf16_Mul.calls kj6 a0 (Go.bits .xor .u16 a1 a2) t145 _ A15.out).mono ?_); rintro e w' ⟨rfl, ⟨nd, rfl⟩⟩; refine ⟨_, rfl, ?_⟩) | ((with_reducible refine gate_callee (f := 18) rfl ?_); refine goesL_ (some 41) rfl rfl Try.func18 (by kernel_rfl) rfl #[.int .u16 a0, .int .u16 a2] rfl (by (try simp only [List.map_toArray, List.map_cons, List.map_nil]); first | done | rfl | (simp only [List.length_drop, List.length_take]; rfl)) ?_; (with_reducible refine (gf16_Mul.calls kj6 a0 a2 t146 _ A16.out).mono ?_); rintro e w' ⟨rfl, ⟨nd, rfl⟩⟩; refine ⟨_, rfl, ?_⟩) | (go_at_call 18; (with_reducible refine (gf16_Mul.calls kj6 a0 1 t147 _ A18.out).mono ?_); rintro e w' ⟨rfl, ⟨nd, rfl⟩⟩) | (go_at_call 18; (with_reducible refine (gf16_Mul.calls kj6 a0 0 t148 _ A20.out).mono ?_); rintro e w' ⟨rfl, ⟨nd, rfl⟩⟩))
                go_meet
                case rel => exact ⟨_, ((t148 != 0)), (by first | rfl | (simp; done) | (simp [*]; done)), H', ⟨by have := HJ6.out; first | omega | exact Nat.le_refl _⟩, by repeat (first | exact Drawn0.refl _ | apply Drawn0.step)⟩
              · rw [if_neg c19] at H
                have c19b0 : (t147 == a0) = false := beq_eq_false_iff_ne.mpr c19
                have c19b1 : (t147 != a0) = true := bne_iff_ne.mpr c19
                have H' := Aside0.mk H
                clear H
                go_wp2_with (first | ((with_reducible refine gate_callee (f := 18) rfl ?_); refine goesL_ (some 37) rfl rfl Try.func18 (by kernel_rfl) rfl #[.int .u16 a0, .int .u16 (Go.bits .xor .u16 a1 a2)] rfl (by (try simp only [List.map_toArray, List.map_cons, List.map_nil]); first | done | rfl | (simp only [List.length_drop, List.length_take]; rfl)) ?_; (with_reducible refine (gf16_Mul.calls kj6 a0 (Go.bits .xor .u16 a1 a2) t145 _ A15.out).mono ?_); rintro e w' ⟨rfl, ⟨nd, rfl⟩⟩; refine ⟨_, rfl, ?_⟩) | ((with_reducible refine gate_callee (f := 18) rfl ?_); refine goesL_ (some 41) rfl rfl Try.func18 (by kernel_rfl) rfl #[.int .u16 a0, .int .u16 a2] rfl (by (try simp only [List.map_toArray, List.map_cons, List.map_nil]); first | done | rfl | (simp only [List.length_drop, List.length_take]; rfl)) ?_; (with_reducible refine (gf16_Mul.calls kj6 a0 a2 t146 _ A16.out).mono ?_); rintro e w' ⟨rfl, ⟨nd, rfl⟩⟩; refine ⟨_, rfl, ?_⟩) | (go_at_call 18; (with_reducible refine (gf16_Mul.calls kj6 a0 1 t147 _ A18.out).mono ?_); rintro e w' ⟨rfl, ⟨nd, rfl⟩⟩))
                go_meet
                case rel => exact ⟨_, (true), (by first | rfl | (simp; done) | (simp [*]; done)), H', ⟨by have := HJ6.out; first | omega | exact Nat.le_refl _⟩, by repeat (first | exact Drawn0.refl _ | apply Drawn0.step)⟩
            · rw [if_neg c17] at H
              have c17b0 : (t145 == (Go.bits .xor .u16 t140 t146)) = false := beq_eq_false_iff_ne.mpr c17
              have c17b1 : (t145 != (Go.bits .xor .u16 t140 t146)) = true := bne_iff_ne.mpr c17
              (first | rw [c17b0] | (simp only [i64_w, i32_w]; rw [c17b0]) | skip)
              have H' := Aside0.mk H
              clear H
              go_wp2_with (first | ((with_reducible refine gate_callee (f := 18) rfl ?_); refine goesL_ (some 37) rfl rfl Try.func18 (by kernel_rfl) rfl #[.int .u16 a0, .int .u16 (Go.bits .xor .u16 a1 a2)] rfl (by (try simp only [List.map_toArray, List.map_cons, List.map_nil]); first | done | rfl | (simp only [List.length_drop, List.length_take]; rfl)) ?_; (with_reducible refine (gf16_Mul.calls kj6 a0 (Go.bits .xor .u16 a1 a2) t145 _ A15.out).mono ?_); rintro e w' ⟨rfl, ⟨nd, rfl⟩⟩; refine ⟨_, rfl, ?_⟩) | ((with_reducible refine gate_callee (f := 18) rfl ?_); refine goesL_ (some 41) rfl rfl Try.func18 (by kernel_rfl) rfl #[.int .u16 a0, .int .u16 a2] rfl (by (try simp only [List.map_toArray, List.map_cons, List.map_nil]); first | done | rfl | (simp only [List.length_drop, List.length_take]; rfl)) ?_; (with_reducible refine (gf16_Mul.calls kj6 a0 a2 t146 _ A16.out).mono ?_); rintro e w' ⟨rfl, ⟨nd, rfl⟩⟩; refine ⟨_, rfl, ?_⟩))
              go_meet
              case rel => exact ⟨_, (true), (by first | rfl | (simp; done) | (simp [*]; done)), H', ⟨by have := HJ6.out; first | omega | exact Nat.le_refl _⟩, by repeat (first | exact Drawn0.refl _ | apply Drawn0.step)⟩
          case rest =>
            clear HC14
            try clear c1
            try clear p2
            try clear c4
            try clear c5
            try clear c6
            try clear c9
            try clear c9b0
            try clear c9b1
            try clear c13
            try clear c17
            try clear c17b0
            try clear c17b1
            try clear c18
            try clear c19
            try clear c19b0
            try clear c19b1
            try clear p2
            obtain ⟨kq, x54_13, rfl, HA, HJ13, ⟨mc13, rfl⟩⟩ := hcut
            cases kq with
            | zero => exact absurd HA.out (by simp [culletlaw03_Gf16Field.j1])
            | succ kj13 =>
              have H := HA.out
              clear HA
              simp only [culletlaw03_Gf16Field.j1] at H
              by_cases c21 : x54_13 = true
              · subst c21
                have H1 : (some false) = some r := by rw [if_pos rfl] at H; exact H
                clear H
                have H := H1
                clear H1
                obtain rfl := Option.some.inj H
                go_wp2
                go_ret
                exact ⟨by first | rfl | (simp; done) | (simp [*]; done), by repeat (first | exact Drawn0.refl _ | apply Drawn0.step)⟩
              · replace c21 := Bool.eq_false_iff.mpr c21
                subst c21
                have H1 : (if a0 = 0 then (culletlaw03_Gf16Field.j2 kj13 a0 a1 ((t140 == 0) != true)) else (culletlaw03_Gf16Field.j2 kj13 a0 a1 ((t140 == 0) != (a1 == 0)))) = some r := by rw [if_neg (show ¬ (false = true) by decide)] at H; exact H
                clear H
                have H := H1
                clear H1
                have HC22 := Aside0.mk H
                clear H
                go_upto_region 8 with (fail)
                go_cut [63] (fun v63 wc => ∃ (kq : Nat) (x63_21 : Bool), v63 = .bool x63_21 ∧ Aside0 (culletlaw03_Gf16Field.j2 kq a0 a1 x63_21 = some r) ∧ Aside0 (kq ≤ kj13) ∧ Drawn0 w wc)
                case first =>
                  have H := HC22.out
                  clear HC22
                  by_cases c23 : a0 = 0
                  · rw [if_pos c23] at H
                    have c23b0 : (a0 == 0) = true := beq_iff_eq.mpr c23
                    have c23b1 : (a0 != 0) = false := bne_eq_false_iff_eq.mpr c23
                    clear c23
                    (first | rw [c23b0] | (simp only [i64_w, i32_w]; rw [c23b0]) | skip)
                    have H' := Aside0.mk H
                    clear H
                    go_wp2
                    go_meet
                    case rel => exact ⟨_, (((t140 == 0) != true)), (by first | rfl | (simp; done) | (simp [*]; done)), H', ⟨by have := HJ6.out; have := HJ13.out; first | omega | exact Nat.le_refl _⟩, by repeat (first | exact Drawn0.refl _ | apply Drawn0.step)⟩
                  · rw [if_neg c23] at H
                    have c23b0 : (a0 == 0) = false := beq_eq_false_iff_ne.mpr c23
                    have c23b1 : (a0 != 0) = true := bne_iff_ne.mpr c23
                    (first | rw [c23b0] | (simp only [i64_w, i32_w]; rw [c23b0]) | skip)
                    have H' := Aside0.mk H
                    clear H
                    go_wp2
                    go_meet
                    case rel => exact ⟨_, (((t140 == 0) != (a1 == 0))), (by first | rfl | (simp; done) | (simp [*]; done)), H', ⟨by have := HJ6.out; have := HJ13.out; first | omega | exact Nat.le_refl _⟩, by repeat (first | exact Drawn0.refl _ | apply Drawn0.step)⟩
                case rest =>
                  clear HC22
                  try clear c1
                  try clear c2
                  try clear p2
                  try clear c4
                  try clear c5
                  try clear c6
                  try clear c9
                  try clear c9b0
                  try clear c9b1
                  try clear c13
                  try clear c17
                  try clear c17b0
                  try clear c17b1
                  try clear c18
                  try clear c19
                  try clear c19b0
                  try clear c19b1
                  try clear c21
                  try clear c23
                  try clear c23b0
                  try clear c23b1
                  try clear p2
                  obtain ⟨kq, x63_21, rfl, HA, HJ21, ⟨mc21, rfl⟩⟩ := hcut
                  cases kq with
                  | zero => exact absurd HA.out (by simp [culletlaw03_Gf16Field.j2])
                  | succ kj21 =>
                    have H := HA.out
                    clear HA
                    simp only [culletlaw03_Gf16Field.j2] at H
                    by_cases c24 : x63_21 = true
                    · subst c24
                      have H1 : (some false) = some r := by rw [if_pos rfl] at H; exact H
                      clear H
                      have H := H1
                      clear H1
                      obtain rfl := Option.some.inj H
                      go_wp2
                      go_ret
                      exact ⟨by first | rfl | (simp; done) | (simp [*]; done), by repeat (first | exact Drawn0.refl _ | apply Drawn0.step)⟩
                    · replace c24 := Bool.eq_false_iff.mpr c24
                      subst c24
                      have H1 : ((gf16_Inv.f kj21 a1).bind fun bt149 => ((gf16_Div.f kj21 a0 a1).bind fun bt151 => (if a1 = 0 then (if bt149.1 = 0 then (if bt151.1 = 0 then (if bt149.2 = 20 then (some (bt151.2 == 20)) else (some false)) else (some false)) else (some false)) else (if bt149.2 = 0 then (if bt151.2 = 0 then ((gf16_Mul.f kj21 a1 bt149.1).bind fun t153 => (if t153 = 1 then ((gf16_Mul.f kj21 bt151.1 a1).bind fun t154 => (if t154 = a0 then ((gf16_Mul.f kj21 a0 bt149.1).bind fun t155 => (some (bt151.1 == t155))) else (some false))) else (some false))) else (some false)) else (some false))))) = some r := by rw [if_neg (show ¬ (false = true) by decide)] at H; exact H
                      clear H
                      have H := H1
                      clear H1
                      replace H := Option.bind_eq_some_iff.mp H
                      obtain ⟨⟨t149, t150⟩, A250, H⟩ := H
                      replace H : ((gf16_Div.f kj21 a0 a1).bind fun bt151 => (if a1 = 0 then (if t149 = 0 then (if bt151.1 = 0 then (if t150 = 20 then (some (bt151.2 == 20)) else (some false)) else (some false)) else (some false)) else (if t150 = 0 then (if bt151.2 = 0 then ((gf16_Mul.f kj21 a1 t149).bind fun t153 => (if t153 = 1 then ((gf16_Mul.f kj21 bt151.1 a1).bind fun t154 => (if t154 = a0 then ((gf16_Mul.f kj21 a0 t149).bind fun t155 => (some (bt151.1 == t155))) else (some false))) else (some false))) else (some false)) else (some false)))) = some r := H
                      have A25 := Aside0.mk A250
                      clear A250
                      replace H := Option.bind_eq_some_iff.mp H
                      obtain ⟨⟨t151, t152⟩, A260, H⟩ := H
                      replace H : (if a1 = 0 then (if t149 = 0 then (if t151 = 0 then (if t150 = 20 then (some (t152 == 20)) else (some false)) else (some false)) else (some false)) else (if t150 = 0 then (if t152 = 0 then ((gf16_Mul.f kj21 a1 t149).bind fun t153 => (if t153 = 1 then ((gf16_Mul.f kj21 t151 a1).bind fun t154 => (if t154 = a0 then ((gf16_Mul.f kj21 a0 t149).bind fun t155 => (some (t151 == t155))) else (some false))) else (some false))) else (some false)) else (some false))) = some r := H
                      have A26 := Aside0.mk A260
                      clear A260
                      by_cases c27 : a1 = 0
                      · rw [if_pos c27] at H
                        have c27b0 : (a1 == 0) = true := beq_iff_eq.mpr c27
                        have c27b1 : (a1 != 0) = false := bne_eq_false_iff_eq.mpr c27
                        clear c27
                        by_cases c28 : t149 = 0
                        · rw [if_pos c28] at H
                          have c28b0 : (t149 == 0) = true := beq_iff_eq.mpr c28
                          have c28b1 : (t149 != 0) = false := bne_eq_false_iff_eq.mpr c28
                          clear c28
                          by_cases c29 : t151 = 0
                          · rw [if_pos c29] at H
                            have c29b0 : (t151 == 0) = true := beq_iff_eq.mpr c29
                            have c29b1 : (t151 != 0) = false := bne_eq_false_iff_eq.mpr c29
                            clear c29
                            by_cases c30 : t150 = 20
                            · rw [if_pos c30] at H
                              have c30b0 : (t150 == 20) = true := beq_iff_eq.mpr c30
                              have c30b1 : (t150 != 20) = false := bne_eq_false_iff_eq.mpr c30
                              clear c30
                              obtain rfl := Option.some.inj H
                              go_wp2_with (first | ((with_reducible refine gate_callee (f := 19) rfl ?_); refine goesL_ (some 66) rfl rfl Try.func19 (by kernel_rfl) rfl #[.int .u16 a1] rfl (by (try simp only [List.map_toArray, List.map_cons, List.map_nil]); first | done | rfl | (simp only [List.length_drop, List.length_take]; rfl)) ?_; (with_reducible refine (gf16_Inv.calls kj21 a1 t149 t150 _ A25.out).mono ?_); rintro e w' ⟨rfl, ⟨nd, rfl⟩⟩; refine ⟨_, rfl, ?_⟩) | ((with_reducible refine gate_callee (f := 20) rfl ?_); refine goesL_ (some 72) rfl rfl Try.func20 (by kernel_rfl) rfl #[.int .u16 a0, .int .u16 a1] rfl (by (try simp only [List.map_toArray, List.map_cons, List.map_nil]); first | done | rfl | (simp only [List.length_drop, List.length_take]; rfl)) ?_; (with_reducible refine (gf16_Div.calls kj21 a0 a1 t151 t152 _ A26.out).mono ?_); rintro e w' ⟨rfl, ⟨nd, rfl⟩⟩; refine ⟨_, rfl, ?_⟩))
                              go_ret
                              exact ⟨by first | rfl | (simp; done) | (simp [*]; done), by repeat (first | exact Drawn0.refl _ | apply Drawn0.step)⟩
                            · rw [if_neg c30] at H
                              have c30b0 : (t150 == 20) = false := beq_eq_false_iff_ne.mpr c30
                              have c30b1 : (t150 != 20) = true := bne_iff_ne.mpr c30
                              obtain rfl := Option.some.inj H
                              go_wp2_with (first | ((with_reducible refine gate_callee (f := 19) rfl ?_); refine goesL_ (some 66) rfl rfl Try.func19 (by kernel_rfl) rfl #[.int .u16 a1] rfl (by (try simp only [List.map_toArray, List.map_cons, List.map_nil]); first | done | rfl | (simp only [List.length_drop, List.length_take]; rfl)) ?_; (with_reducible refine (gf16_Inv.calls kj21 a1 t149 t150 _ A25.out).mono ?_); rintro e w' ⟨rfl, ⟨nd, rfl⟩⟩; refine ⟨_, rfl, ?_⟩) | ((with_reducible refine gate_callee (f := 20) rfl ?_); refine goesL_ (some 72) rfl rfl Try.func20 (by kernel_rfl) rfl #[.int .u16 a0, .int .u16 a1] rfl (by (try simp only [List.map_toArray, List.map_cons, List.map_nil]); first | done | rfl | (simp only [List.length_drop, List.length_take]; rfl)) ?_; (with_reducible refine (gf16_Div.calls kj21 a0 a1 t151 t152 _ A26.out).mono ?_); rintro e w' ⟨rfl, ⟨nd, rfl⟩⟩; refine ⟨_, rfl, ?_⟩))
                              go_ret
                              exact ⟨by first | rfl | (simp; done) | (simp [*]; done), by repeat (first | exact Drawn0.refl _ | apply Drawn0.step)⟩
                          · rw [if_neg c29] at H
                            have c29b0 : (t151 == 0) = false := beq_eq_false_iff_ne.mpr c29
                            have c29b1 : (t151 != 0) = true := bne_iff_ne.mpr c29
                            obtain rfl := Option.some.inj H
                            go_wp2_with (first | ((with_reducible refine gate_callee (f := 19) rfl ?_); refine goesL_ (some 66) rfl rfl Try.func19 (by kernel_rfl) rfl #[.int .u16 a1] rfl (by (try simp only [List.map_toArray, List.map_cons, List.map_nil]); first | done | rfl | (simp only [List.length_drop, List.length_take]; rfl)) ?_; (with_reducible refine (gf16_Inv.calls kj21 a1 t149 t150 _ A25.out).mono ?_); rintro e w' ⟨rfl, ⟨nd, rfl⟩⟩; refine ⟨_, rfl, ?_⟩) | ((with_reducible refine gate_callee (f := 20) rfl ?_); refine goesL_ (some 72) rfl rfl Try.func20 (by kernel_rfl) rfl #[.int .u16 a0, .int .u16 a1] rfl (by (try simp only [List.map_toArray, List.map_cons, List.map_nil]); first | done | rfl | (simp only [List.length_drop, List.length_take]; rfl)) ?_; (with_reducible refine (gf16_Div.calls kj21 a0 a1 t151 t152 _ A26.out).mono ?_); rintro e w' ⟨rfl, ⟨nd, rfl⟩⟩; refine ⟨_, rfl, ?_⟩))
                            go_ret
                            exact ⟨by first | rfl | (simp; done) | (simp [*]; done), by repeat (first | exact Drawn0.refl _ | apply Drawn0.step)⟩
                        · rw [if_neg c28] at H
                          have c28b0 : (t149 == 0) = false := beq_eq_false_iff_ne.mpr c28
                          have c28b1 : (t149 != 0) = true := bne_iff_ne.mpr c28
                          obtain rfl := Option.some.inj H
                          go_wp2_with (first | ((with_reducible refine gate_callee (f := 19) rfl ?_); refine goesL_ (some 66) rfl rfl Try.func19 (by kernel_rfl) rfl #[.int .u16 a1] rfl (by (try simp only [List.map_toArray, List.map_cons, List.map_nil]); first | done | rfl | (simp only [List.length_drop, List.length_take]; rfl)) ?_; (with_reducible refine (gf16_Inv.calls kj21 a1 t149 t150 _ A25.out).mono ?_); rintro e w' ⟨rfl, ⟨nd, rfl⟩⟩; refine ⟨_, rfl, ?_⟩) | ((with_reducible refine gate_callee (f := 20) rfl ?_); refine goesL_ (some 72) rfl rfl Try.func20 (by kernel_rfl) rfl #[.int .u16 a0, .int .u16 a1] rfl (by (try simp only [List.map_toArray, List.map_cons, List.map_nil]); first | done | rfl | (simp only [List.length_drop, List.length_take]; rfl)) ?_; (with_reducible refine (gf16_Div.calls kj21 a0 a1 t151 t152 _ A26.out).mono ?_); rintro e w' ⟨rfl, ⟨nd, rfl⟩⟩; refine ⟨_, rfl, ?_⟩))
                          go_ret
                          exact ⟨by first | rfl | (simp; done) | (simp [*]; done), by repeat (first | exact Drawn0.refl _ | apply Drawn0.step)⟩
                      · rw [if_neg c27] at H
                        have c27b0 : (a1 == 0) = false := beq_eq_false_iff_ne.mpr c27
                        have c27b1 : (a1 != 0) = true := bne_iff_ne.mpr c27
                        by_cases c31 : t150 = 0
                        · rw [if_pos c31] at H
                          have c31b0 : (t150 == 0) = true := beq_iff_eq.mpr c31
                          have c31b1 : (t150 != 0) = false := bne_eq_false_iff_eq.mpr c31
                          clear c31
                          by_cases c32 : t152 = 0
                          · rw [if_pos c32] at H
                            have c32b0 : (t152 == 0) = true := beq_iff_eq.mpr c32
                            have c32b1 : (t152 != 0) = false := bne_eq_false_iff_eq.mpr c32
                            clear c32
                            replace H := Option.bind_eq_some_iff.mp H
                            obtain ⟨t153, A330, H⟩ := H
                            replace H : (if t153 = 1 then ((gf16_Mul.f kj21 t151 a1).bind fun t154 => (if t154 = a0 then ((gf16_Mul.f kj21 a0 t149).bind fun t155 => (some (t151 == t155))) else (some false))) else (some false)) = some r := H
                            have A33 := Aside0.mk A330
                            clear A330
                            by_cases c34 : t153 = 1
                            · rw [if_pos c34] at H
                              have c34b0 : (t153 == 1) = true := beq_iff_eq.mpr c34
                              have c34b1 : (t153 != 1) = false := bne_eq_false_iff_eq.mpr c34
                              clear c34
                              replace H := Option.bind_eq_some_iff.mp H
                              obtain ⟨t154, A350, H⟩ := H
                              replace H : (if t154 = a0 then ((gf16_Mul.f kj21 a0 t149).bind fun t155 => (some (t151 == t155))) else (some false)) = some r := H
                              have A35 := Aside0.mk A350
                              clear A350
                              by_cases c36 : t154 = a0
                              · rw [if_pos c36] at H
                                have c36b0 : (t154 == a0) = true := beq_iff_eq.mpr c36
                                have c36b1 : (t154 != a0) = false := bne_eq_false_iff_eq.mpr c36
                                clear c36
                                replace H := Option.bind_eq_some_iff.mp H
                                obtain ⟨t155, A370, H⟩ := H
                                replace H : (some (t151 == t155)) = some r := H
                                have A37 := Aside0.mk A370
                                clear A370
                                obtain rfl := Option.some.inj H
                                go_wp2_with (first | ((with_reducible refine gate_callee (f := 19) rfl ?_); refine goesL_ (some 66) rfl rfl Try.func19 (by kernel_rfl) rfl #[.int .u16 a1] rfl (by (try simp only [List.map_toArray, List.map_cons, List.map_nil]); first | done | rfl | (simp only [List.length_drop, List.length_take]; rfl)) ?_; (with_reducible refine (gf16_Inv.calls kj21 a1 t149 t150 _ A25.out).mono ?_); rintro e w' ⟨rfl, ⟨nd, rfl⟩⟩; refine ⟨_, rfl, ?_⟩) | ((with_reducible refine gate_callee (f := 20) rfl ?_); refine goesL_ (some 72) rfl rfl Try.func20 (by kernel_rfl) rfl #[.int .u16 a0, .int .u16 a1] rfl (by (try simp only [List.map_toArray, List.map_cons, List.map_nil]); first | done | rfl | (simp only [List.length_drop, List.length_take]; rfl)) ?_; (with_reducible refine (gf16_Div.calls kj21 a0 a1 t151 t152 _ A26.out).mono ?_); rintro e w' ⟨rfl, ⟨nd, rfl⟩⟩; refine ⟨_, rfl, ?_⟩) | (go_at_call 18; (with_reducible refine (gf16_Mul.calls kj21 a1 t149 t153 _ A33.out).mono ?_); rintro e w' ⟨rfl, ⟨nd, rfl⟩⟩) | (go_at_call 18; (with_reducible refine (gf16_Mul.calls kj21 t151 a1 t154 _ A35.out).mono ?_); rintro e w' ⟨rfl, ⟨nd, rfl⟩⟩) | (go_at_call 18; (with_reducible refine (gf16_Mul.calls kj21 a0 t149 t155 _ A37.out).mono ?_); rintro e w' ⟨rfl, ⟨nd, rfl⟩⟩))
                                go_ret
                                exact ⟨by first | rfl | (simp; done) | (simp [*]; done), by repeat (first | exact Drawn0.refl _ | apply Drawn0.step)⟩
                              · rw [if_neg c36] at H
                                have c36b0 : (t154 == a0) = false := beq_eq_false_iff_ne.mpr c36
                                have c36b1 : (t154 != a0) = true := bne_iff_ne.mpr c36
                                obtain rfl := Option.some.inj H
                                go_wp2_with (first | ((with_reducible refine gate_callee (f := 19) rfl ?_); refine goesL_ (some 66) rfl rfl Try.func19 (by kernel_rfl) rfl #[.int .u16 a1] rfl (by (try simp only [List.map_toArray, List.map_cons, List.map_nil]); first | done | rfl | (simp only [List.length_drop, List.length_take]; rfl)) ?_; (with_reducible refine (gf16_Inv.calls kj21 a1 t149 t150 _ A25.out).mono ?_); rintro e w' ⟨rfl, ⟨nd, rfl⟩⟩; refine ⟨_, rfl, ?_⟩) | ((with_reducible refine gate_callee (f := 20) rfl ?_); refine goesL_ (some 72) rfl rfl Try.func20 (by kernel_rfl) rfl #[.int .u16 a0, .int .u16 a1] rfl (by (try simp only [List.map_toArray, List.map_cons, List.map_nil]); first | done | rfl | (simp only [List.length_drop, List.length_take]; rfl)) ?_; (with_reducible refine (gf16_Div.calls kj21 a0 a1 t151 t152 _ A26.out).mono ?_); rintro e w' ⟨rfl, ⟨nd, rfl⟩⟩; refine ⟨_, rfl, ?_⟩) | (go_at_call 18; (with_reducible refine (gf16_Mul.calls kj21 a1 t149 t153 _ A33.out).mono ?_); rintro e w' ⟨rfl, ⟨nd, rfl⟩⟩) | (go_at_call 18; (with_reducible refine (gf16_Mul.calls kj21 t151 a1 t154 _ A35.out).mono ?_); rintro e w' ⟨rfl, ⟨nd, rfl⟩⟩))
                                go_ret
                                exact ⟨by first | rfl | (simp; done) | (simp [*]; done), by repeat (first | exact Drawn0.refl _ | apply Drawn0.step)⟩
                            · rw [if_neg c34] at H
                              have c34b0 : (t153 == 1) = false := beq_eq_false_iff_ne.mpr c34
                              have c34b1 : (t153 != 1) = true := bne_iff_ne.mpr c34
                              obtain rfl := Option.some.inj H
                              go_wp2_with (first | ((with_reducible refine gate_callee (f := 19) rfl ?_); refine goesL_ (some 66) rfl rfl Try.func19 (by kernel_rfl) rfl #[.int .u16 a1] rfl (by (try simp only [List.map_toArray, List.map_cons, List.map_nil]); first | done | rfl | (simp only [List.length_drop, List.length_take]; rfl)) ?_; (with_reducible refine (gf16_Inv.calls kj21 a1 t149 t150 _ A25.out).mono ?_); rintro e w' ⟨rfl, ⟨nd, rfl⟩⟩; refine ⟨_, rfl, ?_⟩) | ((with_reducible refine gate_callee (f := 20) rfl ?_); refine goesL_ (some 72) rfl rfl Try.func20 (by kernel_rfl) rfl #[.int .u16 a0, .int .u16 a1] rfl (by (try simp only [List.map_toArray, List.map_cons, List.map_nil]); first | done | rfl | (simp only [List.length_drop, List.length_take]; rfl)) ?_; (with_reducible refine (gf16_Div.calls kj21 a0 a1 t151 t152 _ A26.out).mono ?_); rintro e w' ⟨rfl, ⟨nd, rfl⟩⟩; refine ⟨_, rfl, ?_⟩) | (go_at_call 18; (with_reducible refine (gf16_Mul.calls kj21 a1 t149 t153 _ A33.out).mono ?_); rintro e w' ⟨rfl, ⟨nd, rfl⟩⟩))
                              go_ret
                              exact ⟨by first | rfl | (simp; done) | (simp [*]; done), by repeat (first | exact Drawn0.refl _ | apply Drawn0.step)⟩
                          · rw [if_neg c32] at H
                            have c32b0 : (t152 == 0) = false := beq_eq_false_iff_ne.mpr c32
                            have c32b1 : (t152 != 0) = true := bne_iff_ne.mpr c32
                            obtain rfl := Option.some.inj H
                            go_wp2_with (first | ((with_reducible refine gate_callee (f := 19) rfl ?_); refine goesL_ (some 66) rfl rfl Try.func19 (by kernel_rfl) rfl #[.int .u16 a1] rfl (by (try simp only [List.map_toArray, List.map_cons, List.map_nil]); first | done | rfl | (simp only [List.length_drop, List.length_take]; rfl)) ?_; (with_reducible refine (gf16_Inv.calls kj21 a1 t149 t150 _ A25.out).mono ?_); rintro e w' ⟨rfl, ⟨nd, rfl⟩⟩; refine ⟨_, rfl, ?_⟩) | ((with_reducible refine gate_callee (f := 20) rfl ?_); refine goesL_ (some 72) rfl rfl Try.func20 (by kernel_rfl) rfl #[.int .u16 a0, .int .u16 a1] rfl (by (try simp only [List.map_toArray, List.map_cons, List.map_nil]); first | done | rfl | (simp only [List.length_drop, List.length_take]; rfl)) ?_; (with_reducible refine (gf16_Div.calls kj21 a0 a1 t151 t152 _ A26.out).mono ?_); rintro e w' ⟨rfl, ⟨nd, rfl⟩⟩; refine ⟨_, rfl, ?_⟩))
                            go_ret
                            exact ⟨by first | rfl | (simp; done) | (simp [*]; done), by repeat (first | exact Drawn0.refl _ | apply Drawn0.step)⟩
                        · rw [if_neg c31] at H
                          have c31b0 : (t150 == 0) = false := beq_eq_false_iff_ne.mpr c31
                          have c31b1 : (t150 != 0) = true := bne_iff_ne.mpr c31
                          obtain rfl := Option.some.inj H
                          go_wp2_with (first | ((with_reducible refine gate_callee (f := 19) rfl ?_); refine goesL_ (some 66) rfl rfl Try.func19 (by kernel_rfl) rfl #[.int .u16 a1] rfl (by (try simp only [List.map_toArray, List.map_cons, List.map_nil]); first | done | rfl | (simp only [List.length_drop, List.length_take]; rfl)) ?_; (with_reducible refine (gf16_Inv.calls kj21 a1 t149 t150 _ A25.out).mono ?_); rintro e w' ⟨rfl, ⟨nd, rfl⟩⟩; refine ⟨_, rfl, ?_⟩) | ((with_reducible refine gate_callee (f := 20) rfl ?_); refine goesL_ (some 72) rfl rfl Try.func20 (by kernel_rfl) rfl #[.int .u16 a0, .int .u16 a1] rfl (by (try simp only [List.map_toArray, List.map_cons, List.map_nil]); first | done | rfl | (simp only [List.length_drop, List.length_take]; rfl)) ?_; (with_reducible refine (gf16_Div.calls kj21 a0 a1 t151 t152 _ A26.out).mono ?_); rintro e w' ⟨rfl, ⟨nd, rfl⟩⟩; refine ⟨_, rfl, ?_⟩))
                          go_ret
                          exact ⟨by first | rfl | (simp; done) | (simp [*]; done), by repeat (first | exact Drawn0.refl _ | apply Drawn0.step)⟩
  · replace c5 := Bool.eq_false_iff.mpr c5
    subst c5
    have H1 : (some false) = some r := by rw [if_neg (show ¬ (false = true) by decide)] at H; exact H
    clear H
    have H := H1
    clear H1
    obtain rfl := Option.some.inj H
    go_enter Try.func4, Try.ntmps4
    go_wp2_with (first | ((with_reducible refine gate_callee (f := 17) rfl ?_); refine goesL_ (some 12) rfl rfl Try.func17 (by kernel_rfl) rfl #[] rfl (by (try simp only [List.map_toArray, List.map_cons, List.map_nil]); first | done | rfl | (simp only [List.length_drop, List.length_take]; rfl)) ?_; (with_reducible refine (culletlaw03_fixed.calls k  false _ A4.out).mono ?_); rintro e w' ⟨rfl, ⟨nd, rfl⟩⟩; refine ⟨_, rfl, ?_⟩))
    go_ret
    exact ⟨by first | rfl | (simp; done) | (simp [*]; done), by repeat (first | exact Drawn0.refl _ | apply Drawn0.step)⟩

/-- THE ONE PURE STATEMENT of culletlaw03_Gf16Field: yours. -/
def culletlaw03_Gf16Field.Pure : Prop := ∀ (a0 : Int) (a1 : Int) (a2 : Int), (Lit.int .u16 a0).wf = true → (Lit.int .u16 a1).wf = true → (Lit.int .u16 a2).wf = true → ∃ k, culletlaw03_Gf16Field.f k a0 a1 a2 = some true
theorem culletlaw03_Gf16Field.walk (P : culletlaw03_Gf16Field.Pure) (a0 : Int) (a1 : Int) (a2 : Int) (w : World) (w0 : (Lit.int .u16 a0).wf = true) (w1 : (Lit.int .u16 a1).wf = true) (w2 : (Lit.int .u16 a2).wf = true) :
    Calls Try.prog 4 #[.int .u16 a0, .int .u16 a1, .int .u16 a2] w fun e w' => e = .returned (.bool true) ∧ Below w.heap.size w w' := by
  obtain ⟨k, h⟩ := P a0 a1 a2 w0 w1 w2
  refine (culletlaw03_Gf16Field.calls k a0 a1 a2 true w h).mono ?_
  rintro e w' ⟨rfl, hd⟩
  exact ⟨rfl, hd.below⟩

end Go.Proofs.Ytedaifgbnojojaa.Q
