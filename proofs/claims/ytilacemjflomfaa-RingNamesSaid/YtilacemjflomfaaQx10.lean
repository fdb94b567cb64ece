-- Printed for this claim by mp.py, a program of its prover, through the kit's print. Lean checks it.
import Derived.Test.YtilacemjflomfaaQx0
import Derived.Test.YtilacemjflomfaaQx4
import Derived.Test.YtilacemjflomfaaQx5
import Derived.Test.YtilacemjflomfaaQx6
import Derived.Test.YtilacemjflomfaaQx9
namespace Go.Proofs.Ytilacemjflomfaa.Q
open Go.RowKit Go.Proofs.YtilacemjflomfaaW.PrintWords Go.Proofs.YtilacemjflomfaaW.PrintLast Go.Proofs.YtilacemjflomfaaW.PrintMore
attribute [local go_sem] max2_int min2_int max_two min_two max_three min_three max_four min_four   -- for this text's walks alone
set_option linter.unusedVariables false
set_option linter.unusedSimpArgs false

/-! ### culletlaw01_RingNames: function 9 -/
mutual
def culletlaw01_RingNames.j0 : Nat → Bool → Option (Bool)
  | 0, _ => none
  | k + 1, x28 => if x28 = true then (some false) else ((ring_Primitive.f k 285).bind fun bt215 => ((ring_Primitive.f k 65581).bind fun bt217 => (if bt215.1 = true then (if bt217.1 = true then (if bt215.2 = 0 then (culletlaw01_RingNames.j1 k (bt217.2 != 0)) else (culletlaw01_RingNames.j1 k true)) else (culletlaw01_RingNames.j1 k true)) else (culletlaw01_RingNames.j1 k true))))
def culletlaw01_RingNames.j1 : Nat → Bool → Option (Bool)
  | 0, _ => none
  | k + 1, x50 => if x50 = true then (some false) else ((ring_Order.f k 2 285).bind fun bt219 => ((ring_Order.f k 2 65581).bind fun bt221 => (if bt219.1 = 255 then (if bt221.1 = 65535 then (if bt219.2 = 0 then (some (bt221.2 == 0)) else (some false)) else (some false)) else (some false))))
end
def culletlaw01_RingNames.f (k : Nat)  : Option (Bool) := (ring_Irreducible.f k 285).bind fun bt211 => ((ring_Irreducible.f k 65581).bind fun bt213 => (if bt211.1 = true then (if bt213.1 = true then (if bt211.2 = 0 then (culletlaw01_RingNames.j0 k (bt213.2 != 0)) else (culletlaw01_RingNames.j0 k true)) else (culletlaw01_RingNames.j0 k true)) else (culletlaw01_RingNames.j0 k true)))
theorem culletlaw01_RingNames.mono_l : ∀ k, (∀ y0, LeO (culletlaw01_RingNames.j0 k y0) (culletlaw01_RingNames.j0 (k + 1) y0)) ∧ (∀ y0, LeO (culletlaw01_RingNames.j1 k y0) (culletlaw01_RingNames.j1 (k + 1) y0))
  | 0 => ⟨fun _ r h => by simp [culletlaw01_RingNames.j0] at h, fun _ r h => by simp [culletlaw01_RingNames.j1] at h⟩
  | k + 1 => by
    obtain ⟨ih0, ih1⟩ := culletlaw01_RingNames.mono_l k
    refine ⟨?_, ?_⟩
    · intro y0
      unfold culletlaw01_RingNames.j0
      repeat' first
      | (with_reducible exact ih0 _)
      | (with_reducible exact ih1 _)
      | (with_reducible exact ring_Irreducible.mono _ _)
      | (with_reducible exact ring_Order.mono _ _ _)
      | (with_reducible exact ring_Primitive.mono _ _)
      | (with_reducible exact LeO.refl _)
      | (with_reducible exact LeO.none _)
      | (with_reducible refine LeO.ite ?_ ?_)
      | (with_reducible refine LeO.bind ?_ (fun _ => ?_))
      | exact ih0 _
      | exact ih1 _
      | exact ring_Irreducible.mono _ _
      | exact ring_Order.mono _ _ _
      | exact ring_Primitive.mono _ _
      | exact LeO.none _
      | refine LeO.ite ?_ ?_
      | refine LeO.bind ?_ (fun _ => ?_)
    · intro y0
      unfold culletlaw01_RingNames.j1
      repeat' first
      | (with_reducible exact ih0 _)
      | (with_reducible exact ih1 _)
      | (with_reducible exact ring_Irreducible.mono _ _)
      | (with_reducible exact ring_Order.mono _ _ _)
      | (with_reducible exact ring_Primitive.mono _ _)
      | (with_reducible exact LeO.refl _)
      | (with_reducible exact LeO.none _)
      | (with_reducible refine LeO.ite ?_ ?_)
      | (with_reducible refine LeO.bind ?_ (fun _ => ?_))
      | exact ih0 _
      | exact ih1 _
      | exact ring_Irreducible.mono _ _
      | exact ring_Order.mono _ _ _
      | exact ring_Primitive.mono _ _
      | exact LeO.none _
      | refine LeO.ite ?_ ?_
      | refine LeO.bind ?_ (fun _ => ?_)
theorem culletlaw01_RingNames.mono : ∀ k, LeO (culletlaw01_RingNames.f k ) (culletlaw01_RingNames.f (k + 1) ) := by
  intro  k
  obtain ⟨ih0, ih1⟩ := culletlaw01_RingNames.mono_l k
  unfold culletlaw01_RingNames.f
  repeat' first
      | (with_reducible exact ih0 _)
      | (with_reducible exact ih1 _)
      | (with_reducible exact ring_Irreducible.mono _ _)
      | (with_reducible exact ring_Order.mono _ _ _)
      | (with_reducible exact ring_Primitive.mono _ _)
      | (with_reducible exact LeO.refl _)
      | (with_reducible exact LeO.none _)
      | (with_reducible refine LeO.ite ?_ ?_)
      | (with_reducible refine LeO.bind ?_ (fun _ => ?_))
      | exact ih0 _
      | exact ih1 _
      | exact ring_Irreducible.mono _ _
      | exact ring_Order.mono _ _ _
      | exact ring_Primitive.mono _ _
      | exact LeO.none _
      | refine LeO.ite ?_ ?_
      | refine LeO.bind ?_ (fun _ => ?_)
set_option maxHeartbeats 8000000 in
set_option maxRecDepth 100000 in
theorem culletlaw01_RingNames.calls (k : Nat)  (r : Bool) (w : World) (h : culletlaw01_RingNames.f k  = some r) :
    Calls Try.prog 9 #[] w fun e w' => e = .returned (.bool r) ∧ Drawn0 w w' := by
  have H : ((ring_Irreducible.f k 285).bind fun bt211 => ((ring_Irreducible.f k 65581).bind fun bt213 => (if bt211.1 = true then (if bt213.1 = true then (if bt211.2 = 0 then (culletlaw01_RingNames.j0 k (bt213.2 != 0)) else (culletlaw01_RingNames.j0 k true)) else (culletlaw01_RingNames.j0 k true)) else (culletlaw01_RingNames.j0 k true)))) = some r := h
  clear h
  replace H := Option.bind_eq_some_iff.mp H
  obtain ⟨⟨t211, t212⟩, A10, H⟩ := H
  replace H : ((ring_Irreducible.f k 65581).bind fun bt213 => (if t211 = true then (if bt213.1 = true then (if t212 = 0 then (culletlaw01_RingNames.j0 k (bt213.2 != 0)) else (culletlaw01_RingNames.j0 k true)) else (culletlaw01_RingNames.j0 k true)) else (culletlaw01_RingNames.j0 k true))) = some r := H
  have A1 := Aside0.mk A10
  clear A10
  replace H := Option.bind_eq_some_iff.mp H
  obtain ⟨⟨t213, t214⟩, A20, H⟩ := H
  replace H : (if t211 = true then (if t213 = true then (if t212 = 0 then (culletlaw01_RingNames.j0 k (t214 != 0)) else (culletlaw01_RingNames.j0 k true)) else (culletlaw01_RingNames.j0 k true)) else (culletlaw01_RingNames.j0 k true)) = some r := H
  have A2 := Aside0.mk A20
  clear A20
  have HC3 := Aside0.mk H
  clear H
  go_enter Try.func9, Try.ntmps9
  go_upto_region 5 with (first | ((with_reducible refine gate_callee (f := 19) rfl ?_); refine goesL_ (some 8) rfl rfl Try.func19 (by kernel_rfl) rfl #[.int .u64 285] rfl (by (try simp only [List.map_toArray, List.map_cons, List.map_nil]); first | done | rfl | (simp only [List.length_drop, List.length_take]; rfl)) ?_; (with_reducible refine (ring_Irreducible.calls k 285 t211 t212 _ A1.out).mono ?_); rintro e w' ⟨rfl, ⟨nd, rfl⟩⟩; refine ⟨_, rfl, ?_⟩) | ((with_reducible refine gate_callee (f := 19) rfl ?_); refine goesL_ (some 12) rfl rfl Try.func19 (by kernel_rfl) rfl #[.int .u64 65581] rfl (by (try simp only [List.map_toArray, List.map_cons, List.map_nil]); first | done | rfl | (simp only [List.length_drop, List.length_take]; rfl)) ?_; (with_reducible refine (ring_Irreducible.calls k 65581 t213 t214 _ A2.out).mono ?_); rintro e w' ⟨rfl, ⟨nd, rfl⟩⟩; refine ⟨_, rfl, ?_⟩))
  (try simp only [Act.put, List.setIfInBounds_toArray, List.set_cons_zero, List.set_cons_succ])
  go_cut [28] (fun v28 wc => ∃ (kq : Nat) (x28_2 : Bool), v28 = .bool x28_2 ∧ Aside0 (culletlaw01_RingNames.j0 kq x28_2 = some r) ∧ Aside0 (kq ≤ k) ∧ Drawn0 w wc)
  case first =>
    have H := HC3.out
    clear HC3
    by_cases c4 : t211 = true
    · subst c4
      have H1 : (if t213 = true then (if t212 = 0 then (culletlaw01_RingNames.j0 k (t214 != 0)) else (culletlaw01_RingNames.j0 k true)) else (culletlaw01_RingNames.j0 k true)) = some r := by rw [if_pos rfl] at H; exact H
      clear H
      have H := H1
      clear H1
      by_cases c5 : t213 = true
      · subst c5
        have H1 : (if t212 = 0 then (culletlaw01_RingNames.j0 k (t214 != 0)) else (culletlaw01_RingNames.j0 k true)) = some r := by rw [if_pos rfl] at H; exact H
        clear H
        have H := H1
        clear H1
        by_cases c6 : t212 = 0
        · rw [if_pos c6] at H
          have c6b0 : (t212 == 0) = true := beq_iff_eq.mpr c6
          have c6b1 : (t212 != 0) = false := bne_eq_false_iff_eq.mpr c6
          clear c6
          (first | rw [c6b0] | (simp only [i64_w, i32_w]; rw [c6b0]) | skip)
          have H' := Aside0.mk H
          clear H
          go_wp2
          go_meet
          case rel => exact ⟨_, ((t214 != 0)), (by first | rfl | (simp; done) | (simp [*]; done)), H', ⟨by first | omega | exact Nat.le_refl _⟩, by repeat (first | exact Drawn0.refl _ | apply Drawn0.step)⟩
        · rw [if_neg c6] at H
          have c6b0 : (t212 == 0) = false := beq_eq_false_iff_ne.mpr c6
          have c6b1 : (t212 != 0) = true := bne_iff_ne.mpr c6
          (first | rw [c6b0] | (simp only [i64_w, i32_w]; rw [c6b0]) | skip)
          have H' := Aside0.mk H
          clear H
          go_wp2
          go_meet
          case rel => exact ⟨_, (true), (by first | rfl | (simp; done) | (simp [*]; done)), H', ⟨by first | omega | exact Nat.le_refl _⟩, by repeat (first | exact Drawn0.refl _ | apply Drawn0.step)⟩
      · replace c5 := Bool.eq_false_iff.mpr c5
        subst c5
        have H1 : (culletlaw01_RingNames.j0 k true) = some r := by rw [if_neg (show ¬ (false = true) by decide)] at H; exact H
        clear H
        have H := H1
        clear H1
        have H' := Aside0.mk H
        clear H
        go_wp2
        go_meet
        case rel => exact ⟨_, (true), (by first | rfl | (simp; done) | (simp [*]; done)), H', ⟨by first | omega | exact Nat.le_refl _⟩, by repeat (first | exact Drawn0.refl _ | apply Drawn0.step)⟩
    · replace c4 := Bool.eq_false_iff.mpr c4
      subst c4
      have H1 : (culletlaw01_RingNames.j0 k true) = some r := by rw [if_neg (show ¬ (false = true) by decide)] at H; exact H
      clear H
      have H := H1
      clear H1
      have H' := Aside0.mk H
      clear H
      go_wp2
      go_meet
      case rel => exact ⟨_, (true), (by first | rfl | (simp; done) | (simp [*]; done)), H', ⟨by first | omega | exact Nat.le_refl _⟩, by repeat (first | exact Drawn0.refl _ | apply Drawn0.step)⟩
  case rest =>
    clear HC3
    try clear c1
    try clear p2
    try clear c4
    try clear c5
    try clear c6
    try clear c6b0
    try clear c6b1
    obtain ⟨kq, x28_2, rfl, HA, HJ2, ⟨mc2, rfl⟩⟩ := hcut
    cases kq with
    | zero => exact absurd HA.out (by simp [culletlaw01_RingNames.j0])
    | succ kj2 =>
      have H := HA.out
      clear HA
      simp only [culletlaw01_RingNames.j0] at H
      by_cases c7 : x28_2 = true
      · subst c7
        have H1 : (some false) = some r := by rw [if_pos rfl] at H; exact H
        clear H
        have H := H1
        clear H1
        obtain rfl := Option.some.inj H
        go_wp2
        go_ret
        exact ⟨by first | rfl | (simp; done) | (simp [*]; done), by repeat (first | exact Drawn0.refl _ | apply Drawn0.step)⟩
      · replace c7 := Bool.eq_false_iff.mpr c7
        subst c7
        have H1 : ((ring_Primitive.f kj2 285).bind fun bt215 => ((ring_Primitive.f kj2 65581).bind fun bt217 => (if bt215.1 = true then (if bt217.1 = true then (if bt215.2 = 0 then (culletlaw01_RingNames.j1 kj2 (bt217.2 != 0)) else (culletlaw01_RingNames.j1 kj2 true)) else (culletlaw01_RingNames.j1 kj2 true)) else (culletlaw01_RingNames.j1 kj2 true)))) = some r := by rw [if_neg (show ¬ (false = true) by decide)] at H; exact H
        clear H
        have H := H1
        clear H1
        replace H := Option.bind_eq_some_iff.mp H
        obtain ⟨⟨t215, t216⟩, A80, H⟩ := H
        replace H : ((ring_Primitive.f kj2 65581).bind fun bt217 => (if t215 = true then (if bt217.1 = true then (if t216 = 0 then (culletlaw01_RingNames.j1 kj2 (bt217.2 != 0)) else (culletlaw01_RingNames.j1 kj2 true)) else (culletlaw01_RingNames.j1 kj2 true)) else (culletlaw01_RingNames.j1 kj2 true))) = some r := H
        have A8 := Aside0.mk A80
        clear A80
        replace H := Option.bind_eq_some_iff.mp H
        obtain ⟨⟨t217, t218⟩, A90, H⟩ := H
        replace H : (if t215 = true then (if t217 = true then (if t216 = 0 then (culletlaw01_RingNames.j1 kj2 (t218 != 0)) else (culletlaw01_RingNames.j1 kj2 true)) else (culletlaw01_RingNames.j1 kj2 true)) else (culletlaw01_RingNames.j1 kj2 true)) = some r := H
        have A9 := Aside0.mk A90
        clear A90
        have HC10 := Aside0.mk H
        clear H
        go_upto_region 9 with (first | ((with_reducible refine gate_callee (f := 20) rfl ?_); refine goesL_ (some 30) rfl rfl Try.func20 (by kernel_rfl) rfl #[.int .u64 285] rfl (by (try simp only [List.map_toArray, List.map_cons, List.map_nil]); first | done | rfl | (simp only [List.length_drop, List.length_take]; rfl)) ?_; (with_reducible refine (ring_Primitive.calls kj2 285 t215 t216 _ A8.out).mono ?_); rintro e w' ⟨rfl, ⟨nd, rfl⟩⟩; refine ⟨_, rfl, ?_⟩) | ((with_reducible refine gate_callee (f := 20) rfl ?_); refine goesL_ (some 34) rfl rfl Try.func20 (by kernel_rfl) rfl #[.int .u64 65581] rfl (by (try simp only [List.map_toArray, List.map_cons, List.map_nil]); first | done | rfl | (simp only [List.length_drop, List.length_take]; rfl)) ?_; (with_reducible refine (ring_Primitive.calls kj2 65581 t217 t218 _ A9.out).mono ?_); rintro e w' ⟨rfl, ⟨nd, rfl⟩⟩; refine ⟨_, rfl, ?_⟩))
        (try simp only [Act.put, List.setIfInBounds_toArray, List.set_cons_zero, List.set_cons_succ])
        go_cut [50] (fun v50 wc => ∃ (kq : Nat) (x50_9 : Bool), v50 = .bool x50_9 ∧ Aside0 (culletlaw01_RingNames.j1 kq x50_9 = some r) ∧ Aside0 (kq ≤ kj2) ∧ Drawn0 w wc)
        case first =>
          have H := HC10.out
          clear HC10
          by_cases c11 : t215 = true
          · subst c11
            have H1 : (if t217 = true then (if t216 = 0 then (culletlaw01_RingNames.j1 kj2 (t218 != 0)) else (culletlaw01_RingNames.j1 kj2 true)) else (culletlaw01_RingNames.j1 kj2 true)) = some r := by rw [if_pos rfl] at H; exact H
            clear H
            have H := H1
            clear H1
            by_cases c12 : t217 = true
            · subst c12
              have H1 : (if t216 = 0 then (culletlaw01_RingNames.j1 kj2 (t218 != 0)) else (culletlaw01_RingNames.j1 kj2 true)) = some r := by rw [if_pos rfl] at H; exact H
              clear H
              have H := H1
              clear H1
              by_cases c13 : t216 = 0
              · rw [if_pos c13] at H
                have c13b0 : (t216 == 0) = true := beq_iff_eq.mpr c13
                have c13b1 : (t216 != 0) = false := bne_eq_false_iff_eq.mpr c13
                clear c13
                (first | rw [c13b0] | (simp only [i64_w, i32_w]; rw [c13b0]) | skip)
                have H' := Aside0.mk H
                clear H
                go_wp2
                go_meet
                case rel => exact ⟨_, ((t218 != 0)), (by first | rfl | (simp; done) | (simp [*]; done)), H', ⟨by have := HJ2.out; first | omega | exact Nat.le_refl _⟩, by repeat (first | exact Drawn0.refl _ | apply Drawn0.step)⟩
              · rw [if_neg c13] at H
                have c13b0 : (t216 == 0) = false := beq_eq_false_iff_ne.mpr c13
                have c13b1 : (t216 != 0) = true := bne_iff_ne.mpr c13
                (first | rw [c13b0] | (simp only [i64_w, i32_w]; rw [c13b0]) | skip)
                have H' := Aside0.mk H
                clear H
                go_wp2
                go_meet
                case rel => exact ⟨_, (true), (by first | rfl | (simp; done) | (simp [*]; done)), H', ⟨by have := HJ2.out; first | omega | exact Nat.le_refl _⟩, by repeat (first | exact Drawn0.refl _ | apply Drawn0.step)⟩
            · replace c12 := Bool.eq_false_iff.mpr c12
              subst c12
              have H1 : (culletlaw01_RingNames.j1 kj2 true) = some r := by rw [if_neg (show ¬ (false = true) by decide)] at H; exact H
              clear H
              have H := H1
              clear H1
              have H' := Aside0.mk H
              clear H
              go_wp2
              go_meet
              case rel => exact ⟨_, (true), (by first | rfl | (simp; done) | (simp [*]; done)), H', ⟨by have := HJ2.out; first | omega | exact Nat.le_refl _⟩, by repeat (first | exact Drawn0.refl _ | apply Drawn0.step)⟩
          · replace c11 := Bool.eq_false_iff.mpr c11
            subst c11
            have H1 : (culletlaw01_RingNames.j1 kj2 true) = some r := by rw [if_neg (show ¬ (false = true) by decide)] at H; exact H
            clear H
            have H := H1
            clear H1
            have H' := Aside0.mk H
            clear H
            go_wp2
            go_meet
            case rel => exact ⟨_, (true), (by first | rfl | (simp; done) | (simp [*]; done)), H', ⟨by have := HJ2.out; first | omega | exact Nat.le_refl _⟩, by repeat (first | exact Drawn0.refl _ | apply Drawn0.step)⟩
        case rest =>
          clear HC10
          try clear c1
          try clear c2
          try clear p2
          try clear c4
          try clear c5
          try clear c6
          try clear c6b0
          try clear c6b1
          try clear c7
          try clear c9
          try clear c11
          try clear c12
          try clear c13
          try clear c13b0
          try clear c13b1
          try clear p2
          obtain ⟨kq, x50_9, rfl, HA, HJ9, ⟨mc9, rfl⟩⟩ := hcut
          cases kq with
          | zero => exact absurd HA.out (by simp [culletlaw01_RingNames.j1])
          | succ kj9 =>
            have H := HA.out
            clear HA
            simp only [culletlaw01_RingNames.j1] at H
            by_cases c14 : x50_9 = true
            · subst c14
              have H1 : (some false) = some r := by rw [if_pos rfl] at H; exact H
              clear H
              have H := H1
              clear H1
              obtain rfl := Option.some.inj H
              go_wp2
              go_ret
              exact ⟨by first | rfl | (simp; done) | (simp [*]; done), by repeat (first | exact Drawn0.refl _ | apply Drawn0.step)⟩
            · replace c14 := Bool.eq_false_iff.mpr c14
              subst c14
              have H1 : ((ring_Order.f kj9 2 285).bind fun bt219 => ((ring_Order.f kj9 2 65581).bind fun bt221 => (if bt219.1 = 255 then (if bt221.1 = 65535 then (if bt219.2 = 0 then (some (bt221.2 == 0)) else (some false)) else (some false)) else (some false)))) = some r := by rw [if_neg (show ¬ (false = true) by decide)] at H; exact H
              clear H
              have H := H1
              clear H1
              replace H := Option.bind_eq_some_iff.mp H
              obtain ⟨⟨t219, t220⟩, A150, H⟩ := H
              replace H : ((ring_Order.f kj9 2 65581).bind fun bt221 => (if t219 = 255 then (if bt221.1 = 65535 then (if t220 = 0 then (some (bt221.2 == 0)) else (some false)) else (some false)) else (some false))) = some r := H
              have A15 := Aside0.mk A150
              clear A150
              replace H := Option.bind_eq_some_iff.mp H
              obtain ⟨⟨t221, t222⟩, A160, H⟩ := H
              replace H : (if t219 = 255 then (if t221 = 65535 then (if t220 = 0 then (some (t222 == 0)) else (some false)) else (some false)) else (some false)) = some r := H
              have A16 := Aside0.mk A160
              clear A160
              by_cases c17 : t219 = 255
              · rw [if_pos c17] at H
                have c17b0 : (t219 == 255) = true := beq_iff_eq.mpr c17
                have c17b1 : (t219 != 255) = false := bne_eq_false_iff_eq.mpr c17
                clear c17
                by_cases c18 : t221 = 65535
                · rw [if_pos c18] at H
                  have c18b0 : (t221 == 65535) = true := beq_iff_eq.mpr c18
                  have c18b1 : (t221 != 65535) = false := bne_eq_false_iff_eq.mpr c18
                  clear c18
                  by_cases c19 : t220 = 0
                  · rw [if_pos c19] at H
                    have c19b0 : (t220 == 0) = true := beq_iff_eq.mpr c19
                    have c19b1 : (t220 != 0) = false := bne_eq_false_iff_eq.mpr c19
                    clear c19
                    obtain rfl := Option.some.inj H
                    go_wp2_with (first | ((with_reducible refine gate_callee (f := 21) rfl ?_); refine goesL_ (some 52) rfl rfl Try.func21 (by kernel_rfl) rfl #[.int .u64 2, .int .u64 285] rfl (by (try simp only [List.map_toArray, List.map_cons, List.map_nil]); first | done | rfl | (simp only [List.length_drop, List.length_take]; rfl)) ?_; (with_reducible refine (ring_Order.calls kj9 2 285 t219 t220 _ A15.out).mono ?_); rintro e w' ⟨rfl, ⟨nd, rfl⟩⟩; refine ⟨_, rfl, ?_⟩) | ((with_reducible refine gate_callee (f := 21) rfl ?_); refine goesL_ (some 56) rfl rfl Try.func21 (by kernel_rfl) rfl #[.int .u64 2, .int .u64 65581] rfl (by (try simp only [List.map_toArray, List.map_cons, List.map_nil]); first | done | rfl | (simp only [List.length_drop, List.length_take]; rfl)) ?_; (with_reducible refine (ring_Order.calls kj9 2 65581 t221 t222 _ A16.out).mono ?_); rintro e w' ⟨rfl, ⟨nd, rfl⟩⟩; refine ⟨_, rfl, ?_⟩))
                    go_ret
                    exact ⟨by first | rfl | (simp; done) | (simp [*]; done), by repeat (first | exact Drawn0.refl _ | apply Drawn0.step)⟩
                  · rw [if_neg c19] at H
                    have c19b0 : (t220 == 0) = false := beq_eq_false_iff_ne.mpr c19
                    have c19b1 : (t220 != 0) = true := bne_iff_ne.mpr c19
                    obtain rfl := Option.some.inj H
                    go_wp2_with (first | ((with_reducible refine gate_callee (f := 21) rfl ?_); refine goesL_ (some 52) rfl rfl Try.func21 (by kernel_rfl) rfl #[.int .u64 2, .int .u64 285] rfl (by (try simp only [List.map_toArray, List.map_cons, List.map_nil]); first | done | rfl | (simp only [List.length_drop, List.length_take]; rfl)) ?_; (with_reducible refine (ring_Order.calls kj9 2 285 t219 t220 _ A15.out).mono ?_); rintro e w' ⟨rfl, ⟨nd, rfl⟩⟩; refine ⟨_, rfl, ?_⟩) | ((with_reducible refine gate_callee (f := 21) rfl ?_); refine goesL_ (some 56) rfl rfl Try.func21 (by kernel_rfl) rfl #[.int .u64 2, .int .u64 65581] rfl (by (try simp only [List.map_toArray, List.map_cons, List.map_nil]); first | done | rfl | (simp only [List.length_drop, List.length_take]; rfl)) ?_; (with_reducible refine (ring_Order.calls kj9 2 65581 t221 t222 _ A16.out).mono ?_); rintro e w' ⟨rfl, ⟨nd, rfl⟩⟩; refine ⟨_, rfl, ?_⟩))
                    go_ret
                    exact ⟨by first | rfl | (simp; done) | (simp [*]; done), by repeat (first | exact Drawn0.refl _ | apply Drawn0.step)⟩
                · rw [if_neg c18] at H
                  have c18b0 : (t221 == 65535) = false := beq_eq_false_iff_ne.mpr c18
                  have c18b1 : (t221 != 65535) = true := bne_iff_ne.mpr c18
                  obtain rfl := Option.some.inj H
                  go_wp2_with (first | ((with_reducible refine gate_callee (f := 21) rfl ?_); refine goesL_ (some 52) rfl rfl Try.func21 (by kernel_rfl) rfl #[.int .u64 2, .int .u64 285] rfl (by (try simp only [List.map_toArray, List.map_cons, List.map_nil]); first | done | rfl | (simp only [List.length_drop, List.length_take]; rfl)) ?_; (with_reducible refine (ring_Order.calls kj9 2 285 t219 t220 _ A15.out).mono ?_); rintro e w' ⟨rfl, ⟨nd, rfl⟩⟩; refine ⟨_, rfl, ?_⟩) | ((with_reducible refine gate_callee (f := 21) rfl ?_); refine goesL_ (some 56) rfl rfl Try.func21 (by kernel_rfl) rfl #[.int .u64 2, .int .u64 65581] rfl (by (try simp only [List.map_toArray, List.map_cons, List.map_nil]); first | done | rfl | (simp only [List.length_drop, List.length_take]; rfl)) ?_; (with_reducible refine (ring_Order.calls kj9 2 65581 t221 t222 _ A16.out).mono ?_); rintro e w' ⟨rfl, ⟨nd, rfl⟩⟩; refine ⟨_, rfl, ?_⟩))
                  go_ret
                  exact ⟨by first | rfl | (simp; done) | (simp [*]; done), by repeat (first | exact Drawn0.refl _ | apply Drawn0.step)⟩
              · rw [if_neg c17] at H
                have c17b0 : (t219 == 255) = false := beq_eq_false_iff_ne.mpr c17
                have c17b1 : (t219 != 255) = true := bne_iff_ne.mpr c17
                obtain rfl := Option.some.inj H
                go_wp2_with (first | ((with_reducible refine gate_callee (f := 21) rfl ?_); refine goesL_ (some 52) rfl rfl Try.func21 (by kernel_rfl) rfl #[.int .u64 2, .int .u64 285] rfl (by (try simp only [List.map_toArray, List.map_cons, List.map_nil]); first | done | rfl | (simp only [List.length_drop, List.length_take]; rfl)) ?_; (with_reducible refine (ring_Order.calls kj9 2 285 t219 t220 _ A15.out).mono ?_); rintro e w' ⟨rfl, ⟨nd, rfl⟩⟩; refine ⟨_, rfl, ?_⟩) | ((with_reducible refine gate_callee (f := 21) rfl ?_); refine goesL_ (some 56) rfl rfl Try.func21 (by kernel_rfl) rfl #[.int .u64 2, .int .u64 65581] rfl (by (try simp only [List.map_toArray, List.map_cons, List.map_nil]); first | done | rfl | (simp only [List.length_drop, List.length_take]; rfl)) ?_; (with_reducible refine (ring_Order.calls kj9 2 65581 t221 t222 _ A16.out).mono ?_); rintro e w' ⟨rfl, ⟨nd, rfl⟩⟩; refine ⟨_, rfl, ?_⟩))
                go_ret
                exact ⟨by first | rfl | (simp; done) | (simp [*]; done), by repeat (first | exact Drawn0.refl _ | apply Drawn0.step)⟩

/-- THE ONE PURE STATEMENT of culletlaw01_RingNames: yours. -/
def culletlaw01_RingNames.Pure : Prop := ∃ k, culletlaw01_RingNames.f k  = some true
theorem culletlaw01_RingNames.walk (P : culletlaw01_RingNames.Pure)  (w : World)  :
    Calls Try.prog 9 #[] w fun e w' => e = .returned (.bool true) ∧ Below w.heap.size w w' := by
  obtain ⟨k, h⟩ := P  
  refine (culletlaw01_RingNames.calls k  true w h).mono ?_
  rintro e w' ⟨rfl, hd⟩
  exact ⟨rfl, hd.below⟩

/-! ### ring_PowMod: function 22 -/
def ring_PowMod.l0 : Nat → Int → Int → Int → Int → Option (Int × Int)
  | 0, _, _, _, _ => none
  | k + 1, x0, x1, x2, x8 => if x1 > 0 then (if (Go.bits .and .u64 x1 1) = 1 then ((ring_mulMod.f k x8 x0 x2).bind fun t224 => ((ring_mulMod.f k x0 x0 x2).bind fun t225 => (ring_PowMod.l0 k t225 (x1 / 2) x2 t224))) else ((ring_mulMod.f k x0 x0 x2).bind fun t226 => (ring_PowMod.l0 k t226 (x1 / 2) x2 x8))) else (some (x8, 0))
def ring_PowMod.f (k : Nat) (a0 : Int) (a1 : Int) (a2 : Int) : Option (Int × Int) := (ring_isModulus.f a2 32).bind fun t223 => (if t223 = true then (ring_PowMod.l0 k a0 a1 a2 1) else (some (0, 11)))
theorem ring_PowMod.mono_l : ∀ k, (∀ y0 y1 y2 y3, LeO (ring_PowMod.l0 k y0 y1 y2 y3) (ring_PowMod.l0 (k + 1) y0 y1 y2 y3))
  | 0 => fun _ _ _ _ r h => by simp [ring_PowMod.l0] at h
  | k + 1 => by
    have ih0 := ring_PowMod.mono_l k
    · intro y0 y1 y2 y3
      unfold ring_PowMod.l0
      repeat' first
      | (with_reducible exact ih0 _ _ _ _)
      | (with_reducible exact ring_mulMod.mono _ _ _ _)
      | (with_reducible exact LeO.refl _)
      | (with_reducible exact LeO.none _)
      | (with_reducible refine LeO.ite ?_ ?_)
      | (with_reducible refine LeO.bind ?_ (fun _ => ?_))
      | exact ih0 _ _ _ _
      | exact ring_mulMod.mono _ _ _ _
      | exact LeO.none _
      | refine LeO.ite ?_ ?_
      | refine LeO.bind ?_ (fun _ => ?_)
theorem ring_PowMod.mono : ∀ a0 a1 a2 k, LeO (ring_PowMod.f k a0 a1 a2) (ring_PowMod.f (k + 1) a0 a1 a2) := by
  intro a0 a1 a2 k
  have ih0 := ring_PowMod.mono_l k
  unfold ring_PowMod.f
  repeat' first
      | (with_reducible exact ih0 _ _ _ _)
      | (with_reducible exact ring_mulMod.mono _ _ _ _)
      | (with_reducible exact LeO.refl _)
      | (with_reducible exact LeO.none _)
      | (with_reducible refine LeO.ite ?_ ?_)
      | (with_reducible refine LeO.bind ?_ (fun _ => ?_))
      | exact ih0 _ _ _ _
      | exact ring_mulMod.mono _ _ _ _
      | exact LeO.none _
      | refine LeO.ite ?_ ?_
      | refine LeO.bind ?_ (fun _ => ?_)
set_option maxHeartbeats 8000000 in
set_option maxRecDepth 100000 in
theorem ring_PowMod.calls (k : Nat) (a0 : Int) (a1 : Int) (a2 : Int) (r1 : Int) (r2 : Int) (w : World) (h : ring_PowMod.f k a0 a1 a2 = some (r1, r2)) :
    Calls Try.prog 22 #[.int .u64 a0, .int .u64 a1, .int .u64 a2] w fun e w' => e = .returned (.tuple #[.int .u64 r1, .int .i64 r2]) ∧ Drawn0 w w' := by
  have H : ((ring_isModulus.f a2 32).bind fun t223 => (if t223 = true then (ring_PowMod.l0 k a0 a1 a2 1) else (some (0, 11)))) = some (r1, r2) := h
  clear h
  replace H := Option.bind_eq_some_iff.mp H
  obtain ⟨t223, A40, H⟩ := H
  replace H : (if t223 = true then (ring_PowMod.l0 k a0 a1 a2 1) else (some (0, 11))) = some (r1, r2) := H
  have A4 := Aside0.mk A40
  clear A40
  by_cases c5 : t223 = true
  · subst c5
    have H1 : (ring_PowMod.l0 k a0 a1 a2 1) = some (r1, r2) := by rw [if_pos rfl] at H; exact H
    clear H
    have H := H1
    clear H1
    have H' := Aside0.mk H
    clear H
    go_enter Try.func22, Try.ntmps22
    go_wp2_with (first | ((with_reducible refine gate_callee (f := 27) rfl ?_); refine goesL_ (some 10) rfl rfl Try.func27 (by kernel_rfl) rfl #[.int .u64 a2, .int .i64 32] rfl (by (try simp only [List.map_toArray, List.map_cons, List.map_nil]); first | done | rfl | (simp only [List.length_drop, List.length_take]; rfl)) ?_; (with_reducible refine (ring_isModulus.calls a2 32 true _ A4.out).mono ?_); rintro e w' ⟨rfl, ⟨nd, rfl⟩⟩; refine ⟨_, rfl, ?_⟩))
    go_loopg [0, 1, 8] k (fun kq v0 v1 v8 w' => ∃ (x0_1 : Int) (x1_1 : Int) (x8_1 : Int), v0 = .int .u64 x0_1 ∧ v1 = .int .u64 x1_1 ∧ v8 = .int .u64 x8_1 ∧ Aside0 (ring_PowMod.l0 kq x0_1 x1_1 a2 x8_1 = some (r1, r2)) ∧ Aside0 (kq ≤ k) ∧ Drawn0 w w')
    case atStart => exact ⟨(a0), (a1), (1), (by first | rfl | (simp; done) | (simp [*]; done)), (by first | rfl | (simp; done) | (simp [*]; done)), (by first | rfl | (simp; done) | (simp [*]; done)), H', ⟨Nat.le_refl _⟩, by repeat (first | exact Drawn0.refl _ | apply Drawn0.step)⟩
    case round =>
      clear H'
      try clear c2
      try clear p2
      try clear c5
      obtain ⟨x0_1, x1_1, x8_1, rfl, rfl, rfl, HA, HK1, ⟨m1, rfl⟩⟩ := hrel
      cases gk with
      | zero => exact absurd HA.out (by simp [ring_PowMod.l0])
      | succ k1 =>
        have H := HA.out
        clear HA
        simp only [ring_PowMod.l0] at H
        by_cases c6 : x1_1 > 0
        · rw [if_pos c6] at H
          have c6b0 : decide (0 < x1_1) = true := decide_eq_true c6
          clear c6
          by_cases c7 : (Go.bits .and .u64 x1_1 1) = 1
          · rw [if_pos c7] at H
            have c7b0 : ((Go.bits .and .u64 x1_1 1) == 1) = true := beq_iff_eq.mpr c7
            have c7b1 : ((Go.bits .and .u64 x1_1 1) != 1) = false := bne_eq_false_iff_eq.mpr c7
            clear c7
            replace H := Option.bind_eq_some_iff.mp H
            obtain ⟨t224, A80, H⟩ := H
            replace H : ((ring_mulMod.f k1 x0_1 x0_1 a2).bind fun t225 => (ring_PowMod.l0 k1 t225 (x1_1 / 2) a2 t224)) = some (r1, r2) := H
            have A8 := Aside0.mk A80
            clear A80
            replace H := Option.bind_eq_some_iff.mp H
            obtain ⟨t225, A90, H⟩ := H
            replace H : (ring_PowMod.l0 k1 t225 (x1_1 / 2) a2 t224) = some (r1, r2) := H
            have A9 := Aside0.mk A90
            clear A90
            have H' := Aside0.mk H
            clear H
            go_wp2_with (first | ((with_reducible refine gate_callee (f := 28) rfl ?_); refine goesL_ (some 22) rfl rfl Try.func28 (by kernel_rfl) rfl #[.int .u64 x8_1, .int .u64 x0_1, .int .u64 a2] rfl (by (try simp only [List.map_toArray, List.map_cons, List.map_nil]); first | done | rfl | (simp only [List.length_drop, List.length_take]; rfl)) ?_; (with_reducible refine (ring_mulMod.calls k1 x8_1 x0_1 a2 t224 _ A8.out).mono ?_); rintro e w' ⟨rfl, ⟨nd, rfl⟩⟩; refine ⟨_, rfl, ?_⟩) | ((with_reducible refine gate_callee (f := 28) rfl ?_); refine goesL_ (some 26) rfl rfl Try.func28 (by kernel_rfl) rfl #[.int .u64 x0_1, .int .u64 x0_1, .int .u64 a2] rfl (by (try simp only [List.map_toArray, List.map_cons, List.map_nil]); first | done | rfl | (simp only [List.length_drop, List.length_take]; rfl)) ?_; (with_reducible refine (ring_mulMod.calls k1 x0_1 x0_1 a2 t225 _ A9.out).mono ?_); rintro e w' ⟨rfl, ⟨nd, rfl⟩⟩; refine ⟨_, rfl, ?_⟩))
            go_roundg k1
            case measure => have := HK1.out; omega
            case rel => exact ⟨(t225), (x1_1 / 2), (t224), (by first | rfl | (simp; done) | (simp [*]; done)), (by first | rfl | (simp; done) | (simp [*]; done)), (by first | rfl | (simp; done) | (simp [*]; done)), H', ⟨by have := HK1.out; omega⟩, by repeat (first | exact Drawn0.refl _ | apply Drawn0.step)⟩
          · rw [if_neg c7] at H
            have c7b0 : ((Go.bits .and .u64 x1_1 1) == 1) = false := beq_eq_false_iff_ne.mpr c7
            have c7b1 : ((Go.bits .and .u64 x1_1 1) != 1) = true := bne_iff_ne.mpr c7
            replace H := Option.bind_eq_some_iff.mp H
            obtain ⟨t226, A100, H⟩ := H
            replace H : (ring_PowMod.l0 k1 t226 (x1_1 / 2) a2 x8_1) = some (r1, r2) := H
            have A10 := Aside0.mk A100
            clear A100
            have H' := Aside0.mk H
            clear H
            go_wp2_with (first | ((with_reducible refine gate_callee (f := 28) rfl ?_); refine goesL_ (some 26) rfl rfl Try.func28 (by kernel_rfl) rfl #[.int .u64 x0_1, .int .u64 x0_1, .int .u64 a2] rfl (by (try simp only [List.map_toArray, List.map_cons, List.map_nil]); first | done | rfl | (simp only [List.length_drop, List.length_take]; rfl)) ?_; (with_reducible refine (ring_mulMod.calls k1 x0_1 x0_1 a2 t226 _ A10.out).mono ?_); rintro e w' ⟨rfl, ⟨nd, rfl⟩⟩; refine ⟨_, rfl, ?_⟩))
            go_roundg k1
            case measure => have := HK1.out; omega
            case rel => exact ⟨(t226), (x1_1 / 2), (x8_1), (by first | rfl | (simp; done) | (simp [*]; done)), (by first | rfl | (simp; done) | (simp [*]; done)), (by first | rfl | (simp; done) | (simp [*]; done)), H', ⟨by have := HK1.out; omega⟩, by repeat (first | exact Drawn0.refl _ | apply Drawn0.step)⟩
        · rw [if_neg c6] at H
          have c6b0 : decide (0 < x1_1) = false := decide_eq_false c6
          clear c6
          simp only [Option.some.injEq, Prod.mk.injEq] at H
          obtain ⟨rfl, rfl⟩ := H
          go_wp2
          go_ret2
          exact ⟨by first | rfl | (simp; done) | (simp [*]; done), by repeat (first | exact Drawn0.refl _ | apply Drawn0.step)⟩
  · replace c5 := Bool.eq_false_iff.mpr c5
    subst c5
    have H1 : (some (0, 11)) = some (r1, r2) := by rw [if_neg (show ¬ (false = true) by decide)] at H; exact H
    clear H
    have H := H1
    clear H1
    simp only [Option.some.injEq, Prod.mk.injEq] at H
    obtain ⟨rfl, rfl⟩ := H
    go_enter Try.func22, Try.ntmps22
    go_wp2_with (first | ((with_reducible refine gate_callee (f := 27) rfl ?_); refine goesL_ (some 10) rfl rfl Try.func27 (by kernel_rfl) rfl #[.int .u64 a2, .int .i64 32] rfl (by (try simp only [List.map_toArray, List.map_cons, List.map_nil]); first | done | rfl | (simp only [List.length_drop, List.length_take]; rfl)) ?_; (with_reducible refine (ring_isModulus.calls a2 32 false _ A4.out).mono ?_); rintro e w' ⟨rfl, ⟨nd, rfl⟩⟩; refine ⟨_, rfl, ?_⟩))
    go_ret2
    exact ⟨by first | rfl | (simp; done) | (simp [*]; done), by repeat (first | exact Drawn0.refl _ | apply Drawn0.step)⟩

end Go.Proofs.Ytilacemjflomfaa.Q
