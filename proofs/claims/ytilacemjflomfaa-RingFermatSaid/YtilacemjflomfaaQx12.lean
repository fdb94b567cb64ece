-- Printed for this claim by mp.py, a program of its prover, through the kit's print. Lean checks it.
import Derived.Test.YtilacemjflomfaaQx0
import Derived.Test.YtilacemjflomfaaQx1
import Derived.Test.YtilacemjflomfaaQx3
import Derived.Test.YtilacemjflomfaaQx6
import Derived.Test.YtilacemjflomfaaQx10
import Derived.Test.YtilacemjflomfaaQx11
namespace Go.Proofs.Ytilacemjflomfaa.Q
open Go.RowKit Go.Proofs.YtilacemjflomfaaW.PrintWords Go.Proofs.YtilacemjflomfaaW.PrintLast Go.Proofs.YtilacemjflomfaaW.PrintMore
attribute [local go_sem] max2_int min2_int max_two min_two max_three min_three max_four min_four   -- for this text's walks alone
set_option linter.unusedVariables false
set_option linter.unusedSimpArgs false

/-! ### culletlaw01_RingFermat: function 10 -/
mutual
def culletlaw01_RingFermat.j0 : Nat → Int → Int → Bool → Option (Bool)
  | 0, _, _, _ => none
  | k + 1, x0, x1, x26 => if x26 = true then (some false) else ((ring_Irreducible.f k x1).bind fun bt237 => ((culletlaw01_high.f k x1).bind fun t239 => (if t239 ≥ 1 then (culletlaw01_RingFermat.j1 k x0 x1 bt237.1 t239 ((bt237.2 == 0) != (decide (t239 ≤ 32)))) else (culletlaw01_RingFermat.j1 k x0 x1 bt237.1 t239 ((bt237.2 == 0) != false)))))
def culletlaw01_RingFermat.j1 : Nat → Int → Int → Bool → Int → Bool → Option (Bool)
  | 0, _, _, _, _, _ => none
  | k + 1, x0, x1, x5, x7, x42 => if x42 = true then (some false) else (if x5 = true then ((ring_DivMod.f k x0 x1).bind fun bt240 => (if 0 ≤ (IntKind.u64.wrap (x7)) then ((ring_PowMod.f k x0 (shl .u64 1 (IntKind.u64.wrap (x7))) x1).bind fun bt243 => (if bt243.2 = 0 then (culletlaw01_RingFermat.j2 k x0 x1 x7 bt240.2.1 (bt243.1 != bt240.2.1)) else (culletlaw01_RingFermat.j2 k x0 x1 x7 bt240.2.1 true))) else (none))) else (some true))
def culletlaw01_RingFermat.j2 : Nat → Int → Int → Int → Int → Bool → Option (Bool)
  | 0, _, _, _, _, _ => none
  | k + 1, x0, x1, x7, x9, x67 => if x67 = true then (some false) else ((ring_InvMod.f k x0 x1).bind fun bt245 => (if x9 = 0 then (some (bt245.2 == 12)) else (if 0 ≤ (IntKind.u64.wrap (x7)) then ((ring_PowMod.f k x0 (IntKind.u64.wrap ((shl .u64 1 (IntKind.u64.wrap (x7))) - 2)) x1).bind fun bt247 => (if bt245.2 = 0 then (some (bt245.1 == bt247.1)) else (some false))) else (none))))
end
def culletlaw01_RingFermat.f (k : Nat) (a0 : Int) (a1 : Int) : Option (Bool) := (ring_Irreducible.f k 7).bind fun bt235 => (if bt235.1 = true then (culletlaw01_RingFermat.j0 k a0 a1 (bt235.2 != 0)) else (culletlaw01_RingFermat.j0 k a0 a1 true))
theorem culletlaw01_RingFermat.mono_l : ∀ k, (∀ y0 y1 y2, LeO (culletlaw01_RingFermat.j0 k y0 y1 y2) (culletlaw01_RingFermat.j0 (k + 1) y0 y1 y2)) ∧ (∀ y0 y1 y2 y3 y4, LeO (culletlaw01_RingFermat.j1 k y0 y1 y2 y3 y4) (culletlaw01_RingFermat.j1 (k + 1) y0 y1 y2 y3 y4)) ∧ (∀ y0 y1 y2 y3 y4, LeO (culletlaw01_RingFermat.j2 k y0 y1 y2 y3 y4) (culletlaw01_RingFermat.j2 (k + 1) y0 y1 y2 y3 y4))
  | 0 => ⟨fun _ _ _ r h => by simp [culletlaw01_RingFermat.j0] at h, fun _ _ _ _ _ r h => by simp [culletlaw01_RingFermat.j1] at h, fun _ _ _ _ _ r h => by simp [culletlaw01_RingFermat.j2] at h⟩
  | k + 1 => by
    obtain ⟨ih0, ih1, ih2⟩ := culletlaw01_RingFermat.mono_l k
    refine ⟨?_, ?_, ?_⟩
    · intro y0 y1 y2
      unfold culletlaw01_RingFermat.j0
      repeat' first
      | (with_reducible exact ih0 _ _ _)
      | (with_reducible exact ih1 _ _ _ _ _)
      | (with_reducible exact ih2 _ _ _ _ _)
      | (with_reducible exact culletlaw01_high.mono _ _)
      | (with_reducible exact ring_DivMod.mono _ _ _)
      | (with_reducible exact ring_InvMod.mono _ _ _)
      | (with_reducible exact ring_Irreducible.mono _ _)
      | (with_reducible exact ring_PowMod.mono _ _ _ _)
      | (with_reducible exact LeO.refl _)
      | (with_reducible exact LeO.none _)
      | (with_reducible refine LeO.ite ?_ ?_)
      | (with_reducible refine LeO.bind ?_ (fun _ => ?_))
      | exact ih0 _ _ _
      | exact ih1 _ _ _ _ _
      | exact ih2 _ _ _ _ _
      | exact culletlaw01_high.mono _ _
      | exact ring_DivMod.mono _ _ _
      | exact ring_InvMod.mono _ _ _
      | exact ring_Irreducible.mono _ _
      | exact ring_PowMod.mono _ _ _ _
      | exact LeO.none _
      | refine LeO.ite ?_ ?_
      | refine LeO.bind ?_ (fun _ => ?_)
    · intro y0 y1 y2 y3 y4
      unfold culletlaw01_RingFermat.j1
      repeat' first
      | (with_reducible exact ih0 _ _ _)
      | (with_reducible exact ih1 _ _ _ _ _)
      | (with_reducible exact ih2 _ _ _ _ _)
      | (with_reducible exact culletlaw01_high.mono _ _)
      | (with_reducible exact ring_DivMod.mono _ _ _)
      | (with_reducible exact ring_InvMod.mono _ _ _)
      | (with_reducible exact ring_Irreducible.mono _ _)
      | (with_reducible exact ring_PowMod.mono _ _ _ _)
      | (with_reducible exact LeO.refl _)
      | (with_reducible exact LeO.none _)
      | (with_reducible refine LeO.ite ?_ ?_)
      | (with_reducible refine LeO.bind ?_ (fun _ => ?_))
      | exact ih0 _ _ _
      | exact ih1 _ _ _ _ _
      | exact ih2 _ _ _ _ _
      | exact culletlaw01_high.mono _ _
      | exact ring_DivMod.mono _ _ _
      | exact ring_InvMod.mono _ _ _
      | exact ring_Irreducible.mono _ _
      | exact ring_PowMod.mono _ _ _ _
      | exact LeO.none _
      | refine LeO.ite ?_ ?_
      | refine LeO.bind ?_ (fun _ => ?_)
    · intro y0 y1 y2 y3 y4
      unfold culletlaw01_RingFermat.j2
      repeat' first
      | (with_reducible exact ih0 _ _ _)
      | (with_reducible exact ih1 _ _ _ _ _)
      | (with_reducible exact ih2 _ _ _ _ _)
      | (with_reducible exact culletlaw01_high.mono _ _)
      | (with_reducible exact ring_DivMod.mono _ _ _)
      | (with_reducible exact ring_InvMod.mono _ _ _)
      | (with_reducible exact ring_Irreducible.mono _ _)
      | (with_reducible exact ring_PowMod.mono _ _ _ _)
      | (with_reducible exact LeO.refl _)
      | (with_reducible exact LeO.none _)
      | (with_reducible refine LeO.ite ?_ ?_)
      | (with_reducible refine LeO.bind ?_ (fun _ => ?_))
      | exact ih0 _ _ _
      | exact ih1 _ _ _ _ _
      | exact ih2 _ _ _ _ _
      | exact culletlaw01_high.mono _ _
      | exact ring_DivMod.mono _ _ _
      | exact ring_InvMod.mono _ _ _
      | exact ring_Irreducible.mono _ _
      | exact ring_PowMod.mono _ _ _ _
      | exact LeO.none _
      | refine LeO.ite ?_ ?_
      | refine LeO.bind ?_ (fun _ => ?_)
theorem culletlaw01_RingFermat.mono : ∀ a0 a1 k, LeO (culletlaw01_RingFermat.f k a0 a1) (culletlaw01_RingFermat.f (k + 1) a0 a1) := by
  intro a0 a1 k
  obtain ⟨ih0, ih1, ih2⟩ := culletlaw01_RingFermat.mono_l k
  unfold culletlaw01_RingFermat.f
  repeat' first
      | (with_reducible exact ih0 _ _ _)
      | (with_reducible exact ih1 _ _ _ _ _)
      | (with_reducible exact ih2 _ _ _ _ _)
      | (with_reducible exact culletlaw01_high.mono _ _)
      | (with_reducible exact ring_DivMod.mono _ _ _)
      | (with_reducible exact ring_InvMod.mono _ _ _)
      | (with_reducible exact ring_Irreducible.mono _ _)
      | (with_reducible exact ring_PowMod.mono _ _ _ _)
      | (with_reducible exact LeO.refl _)
      | (with_reducible exact LeO.none _)
      | (with_reducible refine LeO.ite ?_ ?_)
      | (with_reducible refine LeO.bind ?_ (fun _ => ?_))
      | exact ih0 _ _ _
      | exact ih1 _ _ _ _ _
      | exact ih2 _ _ _ _ _
      | exact culletlaw01_high.mono _ _
      | exact ring_DivMod.mono _ _ _
      | exact ring_InvMod.mono _ _ _
      | exact ring_Irreducible.mono _ _
      | exact ring_PowMod.mono _ _ _ _
      | exact LeO.none _
      | refine LeO.ite ?_ ?_
      | refine LeO.bind ?_ (fun _ => ?_)
set_option maxHeartbeats 8000000 in
set_option maxRecDepth 100000 in
theorem culletlaw01_RingFermat.calls (k : Nat) (a0 : Int) (a1 : Int) (r : Bool) (w : World) (h : culletlaw01_RingFermat.f k a0 a1 = some r) :
    Calls Try.prog 10 #[.int .u64 a0, .int .u64 a1] w fun e w' => e = .returned (.bool r) ∧ Drawn0 w w' := by
  have H : ((ring_Irreducible.f k 7).bind fun bt235 => (if bt235.1 = true then (culletlaw01_RingFermat.j0 k a0 a1 (bt235.2 != 0)) else (culletlaw01_RingFermat.j0 k a0 a1 true))) = some r := h
  clear h
  replace H := Option.bind_eq_some_iff.mp H
  obtain ⟨⟨t235, t236⟩, A30, H⟩ := H
  replace H : (if t235 = true then (culletlaw01_RingFermat.j0 k a0 a1 (t236 != 0)) else (culletlaw01_RingFermat.j0 k a0 a1 true)) = some r := H
  have A3 := Aside0.mk A30
  clear A30
  have HC4 := Aside0.mk H
  clear H
  go_enter Try.func10, Try.ntmps10
  go_upto_region 2 with (first | ((with_reducible refine gate_callee (f := 19) rfl ?_); refine goesL_ (some 18) rfl rfl Try.func19 (by kernel_rfl) rfl #[.int .u64 7] rfl (by (try simp only [List.map_toArray, List.map_cons, List.map_nil]); first | done | rfl | (simp only [List.length_drop, List.length_take]; rfl)) ?_; (with_reducible refine (ring_Irreducible.calls k 7 t235 t236 _ A3.out).mono ?_); rintro e w' ⟨rfl, ⟨nd, rfl⟩⟩; refine ⟨_, rfl, ?_⟩))
  (try simp only [Act.put, List.setIfInBounds_toArray, List.set_cons_zero, List.set_cons_succ])
  go_cut [26] (fun v26 wc => ∃ (kq : Nat) (x26_3 : Bool), v26 = .bool x26_3 ∧ Aside0 (culletlaw01_RingFermat.j0 kq a0 a1 x26_3 = some r) ∧ Aside0 (kq ≤ k) ∧ Drawn0 w wc)
  case first =>
    have H := HC4.out
    clear HC4
    by_cases c5 : t235 = true
    · subst c5
      have H1 : (culletlaw01_RingFermat.j0 k a0 a1 (t236 != 0)) = some r := by rw [if_pos rfl] at H; exact H
      clear H
      have H := H1
      clear H1
      have H' := Aside0.mk H
      clear H
      go_wp2
      go_meet
      case rel => exact ⟨_, ((t236 != 0)), (by first | rfl | (simp; done) | (simp [*]; done)), H', ⟨by first | omega | exact Nat.le_refl _⟩, by repeat (first | exact Drawn0.refl _ | apply Drawn0.step)⟩
    · replace c5 := Bool.eq_false_iff.mpr c5
      subst c5
      have H1 : (culletlaw01_RingFermat.j0 k a0 a1 true) = some r := by rw [if_neg (show ¬ (false = true) by decide)] at H; exact H
      clear H
      have H := H1
      clear H1
      have H' := Aside0.mk H
      clear H
      go_wp2
      go_meet
      case rel => exact ⟨_, (true), (by first | rfl | (simp; done) | (simp [*]; done)), H', ⟨by first | omega | exact Nat.le_refl _⟩, by repeat (first | exact Drawn0.refl _ | apply Drawn0.step)⟩
  case rest =>
    clear HC4
    try clear c1
    try clear p2
    try clear c5
    obtain ⟨kq, x26_3, rfl, HA, HJ3, ⟨mc3, rfl⟩⟩ := hcut
    cases kq with
    | zero => exact absurd HA.out (by simp [culletlaw01_RingFermat.j0])
    | succ kj3 =>
      have H := HA.out
      clear HA
      simp only [culletlaw01_RingFermat.j0] at H
      by_cases c6 : x26_3 = true
      · subst c6
        have H1 : (some false) = some r := by rw [if_pos rfl] at H; exact H
        clear H
        have H := H1
        clear H1
        obtain rfl := Option.some.inj H
        go_wp2
        go_ret
        exact ⟨by first | rfl | (simp; done) | (simp [*]; done), by repeat (first | exact Drawn0.refl _ | apply Drawn0.step)⟩
      · replace c6 := Bool.eq_false_iff.mpr c6
        subst c6
        have H1 : ((ring_Irreducible.f kj3 a1).bind fun bt237 => ((culletlaw01_high.f kj3 a1).bind fun t239 => (if t239 ≥ 1 then (culletlaw01_RingFermat.j1 kj3 a0 a1 bt237.1 t239 ((bt237.2 == 0) != (decide (t239 ≤ 32)))) else (culletlaw01_RingFermat.j1 kj3 a0 a1 bt237.1 t239 ((bt237.2 == 0) != false))))) = some r := by rw [if_neg (show ¬ (false = true) by decide)] at H; exact H
        clear H
        have H := H1
        clear H1
        replace H := Option.bind_eq_some_iff.mp H
        obtain ⟨⟨t237, t238⟩, A70, H⟩ := H
        replace H : ((culletlaw01_high.f kj3 a1).bind fun t239 => (if t239 ≥ 1 then (culletlaw01_RingFermat.j1 kj3 a0 a1 t237 t239 ((t238 == 0) != (decide (t239 ≤ 32)))) else (culletlaw01_RingFermat.j1 kj3 a0 a1 t237 t239 ((t238 == 0) != false)))) = some r := H
        have A7 := Aside0.mk A70
        clear A70
        replace H := Option.bind_eq_some_iff.mp H
        obtain ⟨t239, A80, H⟩ := H
        replace H : (if t239 ≥ 1 then (culletlaw01_RingFermat.j1 kj3 a0 a1 t237 t239 ((t238 == 0) != (decide (t239 ≤ 32)))) else (culletlaw01_RingFermat.j1 kj3 a0 a1 t237 t239 ((t238 == 0) != false))) = some r := H
        have A8 := Aside0.mk A80
        clear A80
        have HC9 := Aside0.mk H
        clear H
        go_upto_region 6 with (first | ((with_reducible refine gate_callee (f := 19) rfl ?_); refine goesL_ (some 29) rfl rfl Try.func19 (by kernel_rfl) rfl #[.int .u64 a1] rfl (by (try simp only [List.map_toArray, List.map_cons, List.map_nil]); first | done | rfl | (simp only [List.length_drop, List.length_take]; rfl)) ?_; (with_reducible refine (ring_Irreducible.calls kj3 a1 t237 t238 _ A7.out).mono ?_); rintro e w' ⟨rfl, ⟨nd, rfl⟩⟩; refine ⟨_, rfl, ?_⟩) | ((with_reducible refine gate_callee (f := 16) rfl ?_); refine goesL_ (some 33) rfl rfl Try.func16 (by kernel_rfl) rfl #[.int .u64 a1] rfl (by (try simp only [List.map_toArray, List.map_cons, List.map_nil]); first | done | rfl | (simp only [List.length_drop, List.length_take]; rfl)) ?_; (with_reducible refine (culletlaw01_high.calls kj3 a1 t239 _ A8.out).mono ?_); rintro e w' ⟨rfl, ⟨nd, rfl⟩⟩; refine ⟨_, rfl, ?_⟩))
        (try simp only [Act.put, List.setIfInBounds_toArray, List.set_cons_zero, List.set_cons_succ])
        go_cut [42] (fun v42 wc => ∃ (kq : Nat) (x42_8 : Bool), v42 = .bool x42_8 ∧ Aside0 (culletlaw01_RingFermat.j1 kq a0 a1 t237 t239 x42_8 = some r) ∧ Aside0 (kq ≤ kj3) ∧ Drawn0 w wc)
        case first =>
          have H := HC9.out
          clear HC9
          by_cases c10 : t239 ≥ 1
          · rw [if_pos c10] at H
            have c10b0 : decide (1 ≤ t239) = true := decide_eq_true c10
            clear c10
            (first | rw [c10b0] | (simp only [i64_w, i32_w]; rw [c10b0]) | skip)
            have H' := Aside0.mk H
            clear H
            go_wp2
            go_meet
            case rel => exact ⟨_, (((t238 == 0) != (decide (t239 ≤ 32)))), (by first | rfl | (simp; done) | (simp [*]; done)), H', ⟨by have := HJ3.out; first | omega | exact Nat.le_refl _⟩, by repeat (first | exact Drawn0.refl _ | apply Drawn0.step)⟩
          · rw [if_neg c10] at H
            have c10b0 : decide (1 ≤ t239) = false := decide_eq_false c10
            clear c10
            (first | rw [c10b0] | (simp only [i64_w, i32_w]; rw [c10b0]) | skip)
            have H' := Aside0.mk H
            clear H
            go_wp2
            go_meet
            case rel => exact ⟨_, (((t238 == 0) != false)), (by first | rfl | (simp; done) | (simp [*]; done)), H', ⟨by have := HJ3.out; first | omega | exact Nat.le_refl _⟩, by repeat (first | exact Drawn0.refl _ | apply Drawn0.step)⟩
        case rest =>
          clear HC9
          try clear c1
          try clear p2
          try clear c3
          try clear c5
          try clear c6
          try clear c10
          try clear c10b0
          try clear p2
          obtain ⟨kq, x42_8, rfl, HA, HJ8, ⟨mc8, rfl⟩⟩ := hcut
          cases kq with
          | zero => exact absurd HA.out (by simp [culletlaw01_RingFermat.j1])
          | succ kj8 =>
            have H := HA.out
            clear HA
            simp only [culletlaw01_RingFermat.j1] at H
            by_cases c11 : x42_8 = true
            · subst c11
              have H1 : (some false) = some r := by rw [if_pos rfl] at H; exact H
              clear H
              have H := H1
              clear H1
              obtain rfl := Option.some.inj H
              go_wp2
              go_ret
              exact ⟨by first | rfl | (simp; done) | (simp [*]; done), by repeat (first | exact Drawn0.refl _ | apply Drawn0.step)⟩
            · replace c11 := Bool.eq_false_iff.mpr c11
              subst c11
              have H1 : (if t237 = true then ((ring_DivMod.f kj8 a0 a1).bind fun bt240 => (if 0 ≤ (IntKind.u64.wrap (t239)) then ((ring_PowMod.f kj8 a0 (shl .u64 1 (IntKind.u64.wrap (t239))) a1).bind fun bt243 => (if bt243.2 = 0 then (culletlaw01_RingFermat.j2 kj8 a0 a1 t239 bt240.2.1 (bt243.1 != bt240.2.1)) else (culletlaw01_RingFermat.j2 kj8 a0 a1 t239 bt240.2.1 true))) else (none))) else (some true)) = some r := by rw [if_neg (show ¬ (false = true) by decide)] at H; exact H
              clear H
              have H := H1
              clear H1
              by_cases c12 : t237 = true
              · subst c12
                have H1 : ((ring_DivMod.f kj8 a0 a1).bind fun bt240 => (if 0 ≤ (IntKind.u64.wrap (t239)) then ((ring_PowMod.f kj8 a0 (shl .u64 1 (IntKind.u64.wrap (t239))) a1).bind fun bt243 => (if bt243.2 = 0 then (culletlaw01_RingFermat.j2 kj8 a0 a1 t239 bt240.2.1 (bt243.1 != bt240.2.1)) else (culletlaw01_RingFermat.j2 kj8 a0 a1 t239 bt240.2.1 true))) else (none))) = some r := by rw [if_pos rfl] at H; exact H
                clear H
                have H := H1
                clear H1
                replace H := Option.bind_eq_some_iff.mp H
                obtain ⟨⟨t240, t241, t242⟩, A130, H⟩ := H
                replace H : (if 0 ≤ (IntKind.u64.wrap (t239)) then ((ring_PowMod.f kj8 a0 (shl .u64 1 (IntKind.u64.wrap (t239))) a1).bind fun bt243 => (if bt243.2 = 0 then (culletlaw01_RingFermat.j2 kj8 a0 a1 t239 t241 (bt243.1 != t241)) else (culletlaw01_RingFermat.j2 kj8 a0 a1 t239 t241 true))) else (none)) = some r := H
                have A13 := Aside0.mk A130
                clear A130
                obtain ⟨ji14, hji14⟩ : ∃ j_ : Int, (IntKind.u64.wrap (t239)) = j_ := ⟨_, rfl⟩
                replace H : (if 0 ≤ (ji14) then ((ring_PowMod.f kj8 a0 (shl .u64 1 (ji14)) a1).bind fun bt243 => (if bt243.2 = 0 then (culletlaw01_RingFermat.j2 kj8 a0 a1 t239 t241 (bt243.1 != t241)) else (culletlaw01_RingFermat.j2 kj8 a0 a1 t239 t241 true))) else (none)) = some r := by first | (rw [hji14] at H; exact H) | (simp only [hji14] at H ⊢; exact H)
                (try rw [hji14] at A13)
                by_cases c15 : 0 ≤ (ji14)
                · rw [if_pos c15] at H
                  have c15b0 := eq_true c15
                  have c15b1 : decide (0 ≤ (ji14)) = true := decide_eq_true c15
                  clear c15
                  obtain ⟨ji16, hji16⟩ : ∃ j_ : Int, (shl .u64 1 (ji14)) = j_ := ⟨_, rfl⟩
                  replace H : ((ring_PowMod.f kj8 a0 (ji16) a1).bind fun bt243 => (if bt243.2 = 0 then (culletlaw01_RingFermat.j2 kj8 a0 a1 t239 t241 (bt243.1 != t241)) else (culletlaw01_RingFermat.j2 kj8 a0 a1 t239 t241 true))) = some r := by first | (rw [hji16] at H; exact H) | (simp only [hji16] at H ⊢; exact H)
                  (try rw [hji16] at A13)
                  have hji16_ : (IntKind.u64.wrap (1 * 2 ^ min (ji14).toNat 64)) = ji16 := hji16
                  have hji16z : (ji14) ≤ 64 → (IntKind.u64.wrap (1 * 2 ^ (ji14).toNat)) = ji16 := shl_small hji16
                  have hji16u : (IntKind.u64.wrap (2 ^ min (ji14).toNat 64)) = ji16 := by have h_ := hji16_; rw [Int.one_mul] at h_; exact h_
                  have hji16v : (ji14) ≤ 64 → (IntKind.u64.wrap (2 ^ (ji14).toNat)) = ji16 := fun hle_ => by have h_ := hji16z hle_; rw [Int.one_mul] at h_; exact h_
                  replace H := Option.bind_eq_some_iff.mp H
                  obtain ⟨⟨t243, t244⟩, A170, H⟩ := H
                  replace H : (if t244 = 0 then (culletlaw01_RingFermat.j2 kj8 a0 a1 t239 t241 (t243 != t241)) else (culletlaw01_RingFermat.j2 kj8 a0 a1 t239 t241 true)) = some r := H
                  have A17 := Aside0.mk A170
                  clear A170
                  have HC18 := Aside0.mk H
                  clear H
                  go_upto_region 12 with (first | ((with_reducible refine gate_callee (f := 13) rfl ?_); refine goesL_ (some 48) rfl rfl Try.func13 (by kernel_rfl) rfl #[.int .u64 a0, .int .u64 a1] rfl (by (try simp only [List.map_toArray, List.map_cons, List.map_nil]); first | done | rfl | (simp only [List.length_drop, List.length_take]; rfl)) ?_; (with_reducible refine (ring_DivMod.calls kj8 a0 a1 t240 t241 t242 _ A13.out).mono ?_); rintro e w' ⟨rfl, ⟨nd, rfl⟩⟩; refine ⟨_, rfl, ?_⟩) | ((with_reducible refine gate_callee (f := 22) rfl ?_); refine goesL_ (some 58) rfl rfl Try.func22 (by kernel_rfl) rfl #[.int .u64 a0, .int .u64 ji16, .int .u64 a1] rfl (by (try simp only [List.map_toArray, List.map_cons, List.map_nil]); first | done | (simp only [hji16]; rfl) | rfl | (simp only [List.length_drop, List.length_take]; rfl)) ?_; (with_reducible refine (ring_PowMod.calls kj8 a0 ji16 a1 t243 t244 _ A17.out).mono ?_); rintro e w' ⟨rfl, ⟨nd, rfl⟩⟩; refine ⟨_, rfl, ?_⟩))
                  (try simp only [Act.put, List.setIfInBounds_toArray, List.set_cons_zero, List.set_cons_succ])
                  go_cut [67] (fun v67 wc => ∃ (kq : Nat) (x67_17 : Bool), v67 = .bool x67_17 ∧ Aside0 (culletlaw01_RingFermat.j2 kq a0 a1 t239 t241 x67_17 = some r) ∧ Aside0 (kq ≤ kj8) ∧ Drawn0 w wc)
                  case first =>
                    have H := HC18.out
                    clear HC18
                    by_cases c19 : t244 = 0
                    · rw [if_pos c19] at H
                      have c19b0 : (t244 == 0) = true := beq_iff_eq.mpr c19
                      have c19b1 : (t244 != 0) = false := bne_eq_false_iff_eq.mpr c19
                      clear c19
                      (first | rw [c19b0] | (simp only [i64_w, i32_w]; rw [c19b0]) | skip)
                      have H' := Aside0.mk H
                      clear H
                      go_wp2
                      go_meet
                      case rel => exact ⟨_, ((t243 != t241)), (by first | rfl | (simp; done) | (simp [*]; done)), H', ⟨by have := HJ3.out; have := HJ8.out; first | omega | exact Nat.le_refl _⟩, by repeat (first | exact Drawn0.refl _ | apply Drawn0.step)⟩
                    · rw [if_neg c19] at H
                      have c19b0 : (t244 == 0) = false := beq_eq_false_iff_ne.mpr c19
                      have c19b1 : (t244 != 0) = true := bne_iff_ne.mpr c19
                      (first | rw [c19b0] | (simp only [i64_w, i32_w]; rw [c19b0]) | skip)
                      have H' := Aside0.mk H
                      clear H
                      go_wp2
                      go_meet
                      case rel => exact ⟨_, (true), (by first | rfl | (simp; done) | (simp [*]; done)), H', ⟨by have := HJ3.out; have := HJ8.out; first | omega | exact Nat.le_refl _⟩, by repeat (first | exact Drawn0.refl _ | apply Drawn0.step)⟩
                  case rest =>
                    clear HC18
                    try clear c1
                    try clear c2
                    try clear p2
                    try clear c3
                    try clear c5
                    try clear c6
                    try clear c8
                    try clear c10
                    try clear c10b0
                    try clear c11
                    try clear c12
                    try clear c13
                    try clear c15
                    try clear c15b0
                    try clear c15b1
                    try clear c16
                    try clear c19
                    try clear c19b0
                    try clear c19b1
                    try clear p2
                    obtain ⟨kq, x67_17, rfl, HA, HJ17, ⟨mc17, rfl⟩⟩ := hcut
                    cases kq with
                    | zero => exact absurd HA.out (by simp [culletlaw01_RingFermat.j2])
                    | succ kj17 =>
                      have H := HA.out
                      clear HA
                      simp only [culletlaw01_RingFermat.j2] at H
                      by_cases c20 : x67_17 = true
                      · subst c20
                        have H1 : (some false) = some r := by rw [if_pos rfl] at H; exact H
                        clear H
                        have H := H1
                        clear H1
                        obtain rfl := Option.some.inj H
                        go_wp2
                        go_ret
                        exact ⟨by first | rfl | (simp; done) | (simp only [← hji14, ← hji16] <;> (first | rfl | simp)) | (simp [*]; done), by repeat (first | exact Drawn0.refl _ | apply Drawn0.step)⟩
                      · replace c20 := Bool.eq_false_iff.mpr c20
                        subst c20
                        have H1 : ((ring_InvMod.f kj17 a0 a1).bind fun bt245 => (if t241 = 0 then (some (bt245.2 == 12)) else (if 0 ≤ (IntKind.u64.wrap (t239)) then ((ring_PowMod.f kj17 a0 (IntKind.u64.wrap ((shl .u64 1 (IntKind.u64.wrap (t239))) - 2)) a1).bind fun bt247 => (if bt245.2 = 0 then (some (bt245.1 == bt247.1)) else (some false))) else (none)))) = some r := by rw [if_neg (show ¬ (false = true) by decide)] at H; exact H
                        clear H
                        have H := H1
                        clear H1
                        replace H := Option.bind_eq_some_iff.mp H
                        obtain ⟨⟨t245, t246⟩, A210, H⟩ := H
                        replace H : (if t241 = 0 then (some (t246 == 12)) else (if 0 ≤ (IntKind.u64.wrap (t239)) then ((ring_PowMod.f kj17 a0 (IntKind.u64.wrap ((shl .u64 1 (IntKind.u64.wrap (t239))) - 2)) a1).bind fun bt247 => (if t246 = 0 then (some (t245 == bt247.1)) else (some false))) else (none))) = some r := H
                        have A21 := Aside0.mk A210
                        clear A210
                        by_cases c22 : t241 = 0
                        · rw [if_pos c22] at H
                          have c22b0 : (t241 == 0) = true := beq_iff_eq.mpr c22
                          have c22b1 : (t241 != 0) = false := bne_eq_false_iff_eq.mpr c22
                          clear c22
                          obtain rfl := Option.some.inj H
                          go_wp2_with (first | ((with_reducible refine gate_callee (f := 23) rfl ?_); refine goesL_ (some 71) rfl rfl Try.func23 (by kernel_rfl) rfl #[.int .u64 a0, .int .u64 a1] rfl (by (try simp only [List.map_toArray, List.map_cons, List.map_nil]); first | done | rfl | (simp only [List.length_drop, List.length_take]; rfl)) ?_; (with_reducible refine (ring_InvMod.calls kj17 a0 a1 t245 t246 _ A21.out).mono ?_); rintro e w' ⟨rfl, ⟨nd, rfl⟩⟩; refine ⟨_, rfl, ?_⟩))
                          go_ret
                          exact ⟨by first | rfl | (simp; done) | (simp only [← hji14, ← hji16] <;> (first | rfl | simp)) | (simp [*]; done), by repeat (first | exact Drawn0.refl _ | apply Drawn0.step)⟩
                        · rw [if_neg c22] at H
                          have c22b0 : (t241 == 0) = false := beq_eq_false_iff_ne.mpr c22
                          have c22b1 : (t241 != 0) = true := bne_iff_ne.mpr c22
                          obtain ⟨ji23, hji23⟩ : ∃ j_ : Int, (IntKind.u64.wrap (t239)) = j_ := ⟨_, rfl⟩
                          replace H : (if 0 ≤ (ji23) then ((ring_PowMod.f kj17 a0 (IntKind.u64.wrap ((shl .u64 1 (ji23)) - 2)) a1).bind fun bt247 => (if t246 = 0 then (some (t245 == bt247.1)) else (some false))) else (none)) = some r := by first | (rw [hji23] at H; exact H) | (simp only [hji23] at H ⊢; exact H)
                          (try rw [hji23] at A21)
                          obtain rfl : ji23 = ji14 := hji23.symm.trans hji14
                          by_cases c24 : 0 ≤ (ji23)
                          · rw [if_pos c24] at H
                            have c24b0 := eq_true c24
                            have c24b1 : decide (0 ≤ (ji23)) = true := decide_eq_true c24
                            clear c24
                            obtain ⟨ji25, hji25⟩ : ∃ j_ : Int, (shl .u64 1 (ji23)) = j_ := ⟨_, rfl⟩
                            replace H : ((ring_PowMod.f kj17 a0 (IntKind.u64.wrap ((ji25) - 2)) a1).bind fun bt247 => (if t246 = 0 then (some (t245 == bt247.1)) else (some false))) = some r := by first | (rw [hji25] at H; exact H) | (simp only [hji25] at H ⊢; exact H)
                            (try rw [hji25] at A21)
                            obtain rfl : ji25 = ji16 := hji25.symm.trans hji16
                            have hji25_ : (IntKind.u64.wrap (1 * 2 ^ min (ji23).toNat 64)) = ji25 := hji25
                            have hji25z : (ji23) ≤ 64 → (IntKind.u64.wrap (1 * 2 ^ (ji23).toNat)) = ji25 := shl_small hji25
                            have hji25u : (IntKind.u64.wrap (2 ^ min (ji23).toNat 64)) = ji25 := by have h_ := hji25_; rw [Int.one_mul] at h_; exact h_
                            have hji25v : (ji23) ≤ 64 → (IntKind.u64.wrap (2 ^ (ji23).toNat)) = ji25 := fun hle_ => by have h_ := hji25z hle_; rw [Int.one_mul] at h_; exact h_
                            replace H := Option.bind_eq_some_iff.mp H
                            obtain ⟨⟨t247, t248⟩, A260, H⟩ := H
                            replace H : (if t246 = 0 then (some (t245 == t247)) else (some false)) = some r := H
                            have A26 := Aside0.mk A260
                            clear A260
                            by_cases c27 : t246 = 0
                            · rw [if_pos c27] at H
                              have c27b0 : (t246 == 0) = true := beq_iff_eq.mpr c27
                              have c27b1 : (t246 != 0) = false := bne_eq_false_iff_eq.mpr c27
                              clear c27
                              obtain rfl := Option.some.inj H
                              go_wp2_with (first | ((with_reducible refine gate_callee (f := 23) rfl ?_); refine goesL_ (some 71) rfl rfl Try.func23 (by kernel_rfl) rfl #[.int .u64 a0, .int .u64 a1] rfl (by (try simp only [List.map_toArray, List.map_cons, List.map_nil]); first | done | rfl | (simp only [List.length_drop, List.length_take]; rfl)) ?_; (with_reducible refine (ring_InvMod.calls kj17 a0 a1 t245 t246 _ A21.out).mono ?_); rintro e w' ⟨rfl, ⟨nd, rfl⟩⟩; refine ⟨_, rfl, ?_⟩) | ((with_reducible refine gate_callee (f := 22) rfl ?_); refine goesL_ (some 85) rfl rfl Try.func22 (by kernel_rfl) rfl #[.int .u64 a0, .int .u64 (IntKind.u64.wrap ((ji25) - 2)), .int .u64 a1] rfl (by (try simp only [List.map_toArray, List.map_cons, List.map_nil]); first | done | (simp only [hji25]; rfl) | rfl | (simp only [List.length_drop, List.length_take]; rfl)) ?_; (with_reducible refine (ring_PowMod.calls kj17 a0 (IntKind.u64.wrap ((ji25) - 2)) a1 t247 t248 _ A26.out).mono ?_); rintro e w' ⟨rfl, ⟨nd, rfl⟩⟩; refine ⟨_, rfl, ?_⟩))
                              go_ret
                              exact ⟨by first | rfl | (simp; done) | (simp only [← hji14, ← hji16, ← hji23, ← hji25] <;> (first | rfl | simp)) | (simp [*]; done), by repeat (first | exact Drawn0.refl _ | apply Drawn0.step)⟩
                            · rw [if_neg c27] at H
                              have c27b0 : (t246 == 0) = false := beq_eq_false_iff_ne.mpr c27
                              have c27b1 : (t246 != 0) = true := bne_iff_ne.mpr c27
                              obtain rfl := Option.some.inj H
                              go_wp2_with (first | ((with_reducible refine gate_callee (f := 23) rfl ?_); refine goesL_ (some 71) rfl rfl Try.func23 (by kernel_rfl) rfl #[.int .u64 a0, .int .u64 a1] rfl (by (try simp only [List.map_toArray, List.map_cons, List.map_nil]); first | done | rfl | (simp only [List.length_drop, List.length_take]; rfl)) ?_; (with_reducible refine (ring_InvMod.calls kj17 a0 a1 t245 t246 _ A21.out).mono ?_); rintro e w' ⟨rfl, ⟨nd, rfl⟩⟩; refine ⟨_, rfl, ?_⟩) | ((with_reducible refine gate_callee (f := 22) rfl ?_); refine goesL_ (some 85) rfl rfl Try.func22 (by kernel_rfl) rfl #[.int .u64 a0, .int .u64 (IntKind.u64.wrap ((ji25) - 2)), .int .u64 a1] rfl (by (try simp only [List.map_toArray, List.map_cons, List.map_nil]); first | done | (simp only [hji25]; rfl) | rfl | (simp only [List.length_drop, List.length_take]; rfl)) ?_; (with_reducible refine (ring_PowMod.calls kj17 a0 (IntKind.u64.wrap ((ji25) - 2)) a1 t247 t248 _ A26.out).mono ?_); rintro e w' ⟨rfl, ⟨nd, rfl⟩⟩; refine ⟨_, rfl, ?_⟩))
                              go_ret
                              exact ⟨by first | rfl | (simp; done) | (simp only [← hji14, ← hji16, ← hji23, ← hji25] <;> (first | rfl | simp)) | (simp [*]; done), by repeat (first | exact Drawn0.refl _ | apply Drawn0.step)⟩
                          · rw [if_neg c24] at H
                            exact absurd H (by simp)
                · rw [if_neg c15] at H
                  exact absurd H (by simp)
              · replace c12 := Bool.eq_false_iff.mpr c12
                subst c12
                have H1 : (some true) = some r := by rw [if_neg (show ¬ (false = true) by decide)] at H; exact H
                clear H
                have H := H1
                clear H1
                obtain rfl := Option.some.inj H
                go_wp2
                go_ret
                exact ⟨by first | rfl | (simp; done) | (simp [*]; done), by repeat (first | exact Drawn0.refl _ | apply Drawn0.step)⟩

/-- THE ONE PURE STATEMENT of culletlaw01_RingFermat: yours. -/
def culletlaw01_RingFermat.Pure : Prop := ∀ (a0 : Int) (a1 : Int), (Lit.int .u64 a0).wf = true → (Lit.int .u64 a1).wf = true → ∃ k, culletlaw01_RingFermat.f k a0 a1 = some true
theorem culletlaw01_RingFermat.walk (P : culletlaw01_RingFermat.Pure) (a0 : Int) (a1 : Int) (w : World) (w0 : (Lit.int .u64 a0).wf = true) (w1 : (Lit.int .u64 a1).wf = true) :
    Calls Try.prog 10 #[.int .u64 a0, .int .u64 a1] w fun e w' => e = .returned (.bool true) ∧ Below w.heap.size w w' := by
  obtain ⟨k, h⟩ := P a0 a1 w0 w1
  refine (culletlaw01_RingFermat.calls k a0 a1 true w h).mono ?_
  rintro e w' ⟨rfl, hd⟩
  exact ⟨rfl, hd.below⟩

end Go.Proofs.Ytilacemjflomfaa.Q
