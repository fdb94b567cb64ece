-- Printed for this claim by mp.py, a program of its prover, through the kit's print. Lean checks it.
import Derived.Test.YtilacemjflomfaaQx0
import Derived.Test.YtilacemjflomfaaQx1
import Derived.Test.YtilacemjflomfaaQx3
import Derived.Test.YtilacemjflomfaaQx6
namespace Go.Proofs.Ytilacemjflomfaa.Q
open Go.RowKit Go.Proofs.YtilacemjflomfaaW.PrintWords Go.Proofs.YtilacemjflomfaaW.PrintLast Go.Proofs.YtilacemjflomfaaW.PrintMore
attribute [local go_sem] max2_int min2_int max_two min_two max_three min_three max_four min_four   -- for this text's walks alone
set_option linter.unusedVariables false
set_option linter.unusedSimpArgs false

/-! ### culletlaw01_RingPrime: function 8 -/
mutual
def culletlaw01_RingPrime.j0 : Nat → Int → Int → Int → Bool → Option (Bool)
  | 0, _, _, _, _ => none
  | k + 1, x0, x1, x2, x27 => if x27 = true then (some false) else ((ring_Mul.f k x0 x1).bind fun t181 => ((culletlaw01_high.f k (IntKind.u64.wrap (x0))).bind fun t182 => (if t182 ≥ 1 then ((culletlaw01_high.f k (IntKind.u64.wrap (x1))).bind fun t183 => (if t183 ≥ 1 then ((culletlaw01_high.f k t181).bind fun t184 => (culletlaw01_RingPrime.j1 k x0 x1 x2 t181 (decide (t184 ≤ 32)))) else (culletlaw01_RingPrime.j1 k x0 x1 x2 t181 false))) else (culletlaw01_RingPrime.j1 k x0 x1 x2 t181 false))))
def culletlaw01_RingPrime.j1 : Nat → Int → Int → Int → Int → Bool → Option (Bool)
  | 0, _, _, _, _, _ => none
  | k + 1, x0, x1, x2, x9, x45 => if x45 = true then ((ring_Irreducible.f k x9).bind fun bt185 => (if bt185.1 = true then (some false) else (if bt185.2 = 0 then (culletlaw01_RingPrime.j2 k x0 x1 x2 x9) else (some false)))) else (culletlaw01_RingPrime.j2 k x0 x1 x2 x9)
def culletlaw01_RingPrime.j2 : Nat → Int → Int → Int → Int → Option (Bool)
  | 0, _, _, _, _ => none
  | k + 1, x0, x1, x2, x9 => (ring_Irreducible.f k x2).bind fun bt187 => (if bt187.1 = true then ((ring_DivMod.f k x9 x2).bind fun bt189 => ((ring_DivMod.f k (IntKind.u64.wrap (x0)) x2).bind fun bt192 => ((ring_DivMod.f k (IntKind.u64.wrap (x1)) x2).bind fun bt195 => (if bt189.2.2 = 0 then (if bt192.2.2 = 0 then (if bt195.2.2 = 0 then (if bt192.2.1 = 0 then (some ((bt189.2.1 == 0) == true)) else (some ((bt189.2.1 == 0) == (bt195.2.1 == 0)))) else (some false)) else (some false)) else (some false))))) else (some true))
end
def culletlaw01_RingPrime.f (k : Nat) (a0 : Int) (a1 : Int) (a2 : Int) : Option (Bool) := (ring_Irreducible.f k 7).bind fun bt179 => (if bt179.1 = true then (culletlaw01_RingPrime.j0 k a0 a1 a2 (bt179.2 != 0)) else (culletlaw01_RingPrime.j0 k a0 a1 a2 true))
theorem culletlaw01_RingPrime.mono_l : ∀ k, (∀ y0 y1 y2 y3, LeO (culletlaw01_RingPrime.j0 k y0 y1 y2 y3) (culletlaw01_RingPrime.j0 (k + 1) y0 y1 y2 y3)) ∧ (∀ y0 y1 y2 y3 y4, LeO (culletlaw01_RingPrime.j1 k y0 y1 y2 y3 y4) (culletlaw01_RingPrime.j1 (k + 1) y0 y1 y2 y3 y4)) ∧ (∀ y0 y1 y2 y3, LeO (culletlaw01_RingPrime.j2 k y0 y1 y2 y3) (culletlaw01_RingPrime.j2 (k + 1) y0 y1 y2 y3))
  | 0 => ⟨fun _ _ _ _ r h => by simp [culletlaw01_RingPrime.j0] at h, fun _ _ _ _ _ r h => by simp [culletlaw01_RingPrime.j1] at h, fun _ _ _ _ r h => by simp [culletlaw01_RingPrime.j2] at h⟩
  | k + 1 => by
    obtain ⟨ih0, ih1, ih2⟩ := culletlaw01_RingPrime.mono_l k
    refine ⟨?_, ?_, ?_⟩
    · intro y0 y1 y2 y3
      unfold culletlaw01_RingPrime.j0
      repeat' first
      | (with_reducible exact ih0 _ _ _ _)
      | (with_reducible exact ih1 _ _ _ _ _)
      | (with_reducible exact ih2 _ _ _ _)
      | (with_reducible exact culletlaw01_high.mono _ _)
      | (with_reducible exact ring_DivMod.mono _ _ _)
      | (with_reducible exact ring_Irreducible.mono _ _)
      | (with_reducible exact ring_Mul.mono _ _ _)
      | (with_reducible exact LeO.refl _)
      | (with_reducible exact LeO.none _)
      | (with_reducible refine LeO.ite ?_ ?_)
      | (with_reducible refine LeO.bind ?_ (fun _ => ?_))
      | exact ih0 _ _ _ _
      | exact ih1 _ _ _ _ _
      | exact ih2 _ _ _ _
      | exact culletlaw01_high.mono _ _
      | exact ring_DivMod.mono _ _ _
      | exact ring_Irreducible.mono _ _
      | exact ring_Mul.mono _ _ _
      | exact LeO.none _
      | refine LeO.ite ?_ ?_
      | refine LeO.bind ?_ (fun _ => ?_)
    · intro y0 y1 y2 y3 y4
      unfold culletlaw01_RingPrime.j1
      repeat' first
      | (with_reducible exact ih0 _ _ _ _)
      | (with_reducible exact ih1 _ _ _ _ _)
      | (with_reducible exact ih2 _ _ _ _)
      | (with_reducible exact culletlaw01_high.mono _ _)
      | (with_reducible exact ring_DivMod.mono _ _ _)
      | (with_reducible exact ring_Irreducible.mono _ _)
      | (with_reducible exact ring_Mul.mono _ _ _)
      | (with_reducible exact LeO.refl _)
      | (with_reducible exact LeO.none _)
      | (with_reducible refine LeO.ite ?_ ?_)
      | (with_reducible refine LeO.bind ?_ (fun _ => ?_))
      | exact ih0 _ _ _ _
      | exact ih1 _ _ _ _ _
      | exact ih2 _ _ _ _
      | exact culletlaw01_high.mono _ _
      | exact ring_DivMod.mono _ _ _
      | exact ring_Irreducible.mono _ _
      | exact ring_Mul.mono _ _ _
      | exact LeO.none _
      | refine LeO.ite ?_ ?_
      | refine LeO.bind ?_ (fun _ => ?_)
    · intro y0 y1 y2 y3
      unfold culletlaw01_RingPrime.j2
      repeat' first
      | (with_reducible exact ih0 _ _ _ _)
      | (with_reducible exact ih1 _ _ _ _ _)
      | (with_reducible exact ih2 _ _ _ _)
      | (with_reducible exact culletlaw01_high.mono _ _)
      | (with_reducible exact ring_DivMod.mono _ _ _)
      | (with_reducible exact ring_Irreducible.mono _ _)
      | (with_reducible exact ring_Mul.mono _ _ _)
      | (with_reducible exact LeO.refl _)
      | (with_reducible exact LeO.none _)
      | (with_reducible refine LeO.ite ?_ ?_)
      | (with_reducible refine LeO.bind ?_ (fun _ => ?_))
      | exact ih0 _ _ _ _
      | exact ih1 _ _ _ _ _
      | exact ih2 _ _ _ _
      | exact culletlaw01_high.mono _ _
      | exact ring_DivMod.mono _ _ _
      | exact ring_Irreducible.mono _ _
      | exact ring_Mul.mono _ _ _
      | exact LeO.none _
      | refine LeO.ite ?_ ?_
      | refine LeO.bind ?_ (fun _ => ?_)
theorem culletlaw01_RingPrime.mono : ∀ a0 a1 a2 k, LeO (culletlaw01_RingPrime.f k a0 a1 a2) (culletlaw01_RingPrime.f (k + 1) a0 a1 a2) := by
  intro a0 a1 a2 k
  obtain ⟨ih0, ih1, ih2⟩ := culletlaw01_RingPrime.mono_l k
  unfold culletlaw01_RingPrime.f
  repeat' first
      | (with_reducible exact ih0 _ _ _ _)
      | (with_reducible exact ih1 _ _ _ _ _)
      | (with_reducible exact ih2 _ _ _ _)
      | (with_reducible exact culletlaw01_high.mono _ _)
      | (with_reducible exact ring_DivMod.mono _ _ _)
      | (with_reducible exact ring_Irreducible.mono _ _)
      | (with_reducible exact ring_Mul.mono _ _ _)
      | (with_reducible exact LeO.refl _)
      | (with_reducible exact LeO.none _)
      | (with_reducible refine LeO.ite ?_ ?_)
      | (with_reducible refine LeO.bind ?_ (fun _ => ?_))
      | exact ih0 _ _ _ _
      | exact ih1 _ _ _ _ _
      | exact ih2 _ _ _ _
      | exact culletlaw01_high.mono _ _
      | exact ring_DivMod.mono _ _ _
      | exact ring_Irreducible.mono _ _
      | exact ring_Mul.mono _ _ _
      | exact LeO.none _
      | refine LeO.ite ?_ ?_
      | refine LeO.bind ?_ (fun _ => ?_)
set_option maxHeartbeats 8000000 in
set_option maxRecDepth 100000 in
theorem culletlaw01_RingPrime.calls (k : Nat) (a0 : Int) (a1 : Int) (a2 : Int) (r : Bool) (w : World) (h : culletlaw01_RingPrime.f k a0 a1 a2 = some r) :
    Calls Try.prog 8 #[.int .u32 a0, .int .u32 a1, .int .u64 a2] w fun e w' => e = .returned (.bool r) ∧ Drawn0 w w' := by
  have H : ((ring_Irreducible.f k 7).bind fun bt179 => (if bt179.1 = true then (culletlaw01_RingPrime.j0 k a0 a1 a2 (bt179.2 != 0)) else (culletlaw01_RingPrime.j0 k a0 a1 a2 true))) = some r := h
  clear h
  replace H := Option.bind_eq_some_iff.mp H
  obtain ⟨⟨t179, t180⟩, A40, H⟩ := H
  replace H : (if t179 = true then (culletlaw01_RingPrime.j0 k a0 a1 a2 (t180 != 0)) else (culletlaw01_RingPrime.j0 k a0 a1 a2 true)) = some r := H
  have A4 := Aside0.mk A40
  clear A40
  have HC5 := Aside0.mk H
  clear H
  go_enter Try.func8, Try.ntmps8
  go_upto_region 2 with (first | ((with_reducible refine gate_callee (f := 19) rfl ?_); refine goesL_ (some 19) rfl rfl Try.func19 (by kernel_rfl) rfl #[.int .u64 7] rfl (by (try simp only [List.map_toArray, List.map_cons, List.map_nil]); first | done | rfl | (simp only [List.length_drop, List.length_take]; rfl)) ?_; (with_reducible refine (ring_Irreducible.calls k 7 t179 t180 _ A4.out).mono ?_); rintro e w' ⟨rfl, ⟨nd, rfl⟩⟩; refine ⟨_, rfl, ?_⟩))
  (try simp only [Act.put, List.setIfInBounds_toArray, List.set_cons_zero, List.set_cons_succ])
  go_cut [27] (fun v27 wc => ∃ (kq : Nat) (x27_4 : Bool), v27 = .bool x27_4 ∧ Aside0 (culletlaw01_RingPrime.j0 kq a0 a1 a2 x27_4 = some r) ∧ Aside0 (kq ≤ k) ∧ Drawn0 w wc)
  case first =>
    have H := HC5.out
    clear HC5
    by_cases c6 : t179 = true
    · subst c6
      have H1 : (culletlaw01_RingPrime.j0 k a0 a1 a2 (t180 != 0)) = some r := by rw [if_pos rfl] at H; exact H
      clear H
      have H := H1
      clear H1
      have H' := Aside0.mk H
      clear H
      go_wp2
      go_meet
      case rel => exact ⟨_, ((t180 != 0)), (by first | rfl | (simp; done) | (simp [*]; done)), H', ⟨by first | omega | exact Nat.le_refl _⟩, by repeat (first | exact Drawn0.refl _ | apply Drawn0.step)⟩
    · replace c6 := Bool.eq_false_iff.mpr c6
      subst c6
      have H1 : (culletlaw01_RingPrime.j0 k a0 a1 a2 true) = some r := by rw [if_neg (show ¬ (false = true) by decide)] at H; exact H
      clear H
      have H := H1
      clear H1
      have H' := Aside0.mk H
      clear H
      go_wp2
      go_meet
      case rel => exact ⟨_, (true), (by first | rfl | (simp; done) | (simp [*]; done)), H', ⟨by first | omega | exact Nat.le_refl _⟩, by repeat (first | exact Drawn0.refl _ | apply Drawn0.step)⟩
  case rest =>
    clear HC5
    try clear c1
    try clear p2
    try clear c6
    obtain ⟨kq, x27_4, rfl, HA, HJ4, ⟨mc4, rfl⟩⟩ := hcut
    cases kq with
    | zero => exact absurd HA.out (by simp [culletlaw01_RingPrime.j0])
    | succ kj4 =>
      have H := HA.out
      clear HA
      simp only [culletlaw01_RingPrime.j0] at H
      by_cases c7 : x27_4 = true
      · subst c7
        have H1 : (some false) = some r := by rw [if_pos rfl] at H; exact H
        clear H
        have H := H1
        clear H1
        obtain rfl := Option.some.inj H
        go_wp2
        go_ret
        exact ⟨by first | rfl | (simp; done) | (simp [*]; done), by repeat (first | exact Drawn0.refl _ | apply Drawn0.step)⟩
      · replace c7 := Bool.eq_false_iff.mpr c7
        subst c7
        have H1 : ((ring_Mul.f kj4 a0 a1).bind fun t181 => ((culletlaw01_high.f kj4 (IntKind.u64.wrap (a0))).bind fun t182 => (if t182 ≥ 1 then ((culletlaw01_high.f kj4 (IntKind.u64.wrap (a1))).bind fun t183 => (if t183 ≥ 1 then ((culletlaw01_high.f kj4 t181).bind fun t184 => (culletlaw01_RingPrime.j1 kj4 a0 a1 a2 t181 (decide (t184 ≤ 32)))) else (culletlaw01_RingPrime.j1 kj4 a0 a1 a2 t181 false))) else (culletlaw01_RingPrime.j1 kj4 a0 a1 a2 t181 false)))) = some r := by rw [if_neg (show ¬ (false = true) by decide)] at H; exact H
        clear H
        have H := H1
        clear H1
        replace H := Option.bind_eq_some_iff.mp H
        obtain ⟨t181, A80, H⟩ := H
        replace H : ((culletlaw01_high.f kj4 (IntKind.u64.wrap (a0))).bind fun t182 => (if t182 ≥ 1 then ((culletlaw01_high.f kj4 (IntKind.u64.wrap (a1))).bind fun t183 => (if t183 ≥ 1 then ((culletlaw01_high.f kj4 t181).bind fun t184 => (culletlaw01_RingPrime.j1 kj4 a0 a1 a2 t181 (decide (t184 ≤ 32)))) else (culletlaw01_RingPrime.j1 kj4 a0 a1 a2 t181 false))) else (culletlaw01_RingPrime.j1 kj4 a0 a1 a2 t181 false))) = some r := H
        have A8 := Aside0.mk A80
        clear A80
        have HC9 := Aside0.mk H
        clear H
        go_upto_region 5 with (first | ((with_reducible refine gate_callee (f := 14) rfl ?_); refine goesL_ (some 30) rfl rfl Try.func14 (by kernel_rfl) rfl #[.int .u32 a0, .int .u32 a1] rfl (by (try simp only [List.map_toArray, List.map_cons, List.map_nil]); first | done | rfl | (simp only [List.length_drop, List.length_take]; rfl)) ?_; (with_reducible refine (ring_Mul.calls kj4 a0 a1 t181 _ A8.out).mono ?_); rintro e w' ⟨rfl, ⟨nd, rfl⟩⟩; refine ⟨_, rfl, ?_⟩))
        (try simp only [Act.put, List.setIfInBounds_toArray, List.set_cons_zero, List.set_cons_succ])
        go_cut [45] (fun v45 wc => ∃ (kq : Nat) (x45_8 : Bool), v45 = .bool x45_8 ∧ Aside0 (culletlaw01_RingPrime.j1 kq a0 a1 a2 t181 x45_8 = some r) ∧ Aside0 (kq ≤ kj4) ∧ Drawn0 w wc)
        case first =>
          have H := HC9.out
          clear HC9
          replace H := Option.bind_eq_some_iff.mp H
          obtain ⟨t182, A100, H⟩ := H
          replace H : (if t182 ≥ 1 then ((culletlaw01_high.f kj4 (IntKind.u64.wrap (a1))).bind fun t183 => (if t183 ≥ 1 then ((culletlaw01_high.f kj4 t181).bind fun t184 => (culletlaw01_RingPrime.j1 kj4 a0 a1 a2 t181 (decide (t184 ≤ 32)))) else (culletlaw01_RingPrime.j1 kj4 a0 a1 a2 t181 false))) else (culletlaw01_RingPrime.j1 kj4 a0 a1 a2 t181 false)) = some r := H
          have A10 := Aside0.mk A100
          clear A100
          by_cases c11 : t182 ≥ 1
          · rw [if_pos c11] at H
            have c11b0 : decide (1 ≤ t182) = true := decide_eq_true c11
            clear c11
            (first | rw [c11b0] | (simp only [i64_w, i32_w]; rw [c11b0]) | skip)
            replace H := Option.bind_eq_some_iff.mp H
            obtain ⟨t183, A120, H⟩ := H
            replace H : (if t183 ≥ 1 then ((culletlaw01_high.f kj4 t181).bind fun t184 => (culletlaw01_RingPrime.j1 kj4 a0 a1 a2 t181 (decide (t184 ≤ 32)))) else (culletlaw01_RingPrime.j1 kj4 a0 a1 a2 t181 false)) = some r := H
            have A12 := Aside0.mk A120
            clear A120
            by_cases c13 : t183 ≥ 1
            · rw [if_pos c13] at H
              have c13b0 : decide (1 ≤ t183) = true := decide_eq_true c13
              clear c13
              replace H := Option.bind_eq_some_iff.mp H
              obtain ⟨t184, A140, H⟩ := H
              replace H : (culletlaw01_RingPrime.j1 kj4 a0 a1 a2 t181 (decide (t184 ≤ 32))) = some r := H
              have A14 := Aside0.mk A140
              clear A140
              have H' := Aside0.mk H
              clear H
              go_wp2_with (first | ((with_reducible refine gate_callee (f := 16) rfl ?_); refine goesL_ (some 33) rfl rfl Try.func16 (by kernel_rfl) rfl #[.int .u64 (IntKind.u64.wrap (a0))] rfl (by (try simp only [List.map_toArray, List.map_cons, List.map_nil]); first | done | rfl | (simp only [List.length_drop, List.length_take]; rfl)) ?_; (with_reducible refine (culletlaw01_high.calls kj4 (IntKind.u64.wrap (a0)) t182 _ A10.out).mono ?_); rintro e w' ⟨rfl, ⟨nd, rfl⟩⟩; refine ⟨_, rfl, ?_⟩) | (go_at_call 16; (with_reducible refine (culletlaw01_high.calls kj4 (IntKind.u64.wrap (a1)) t183 _ A12.out).mono ?_); rintro e w' ⟨rfl, ⟨nd, rfl⟩⟩) | (go_at_call 16; (with_reducible refine (culletlaw01_high.calls kj4 t181 t184 _ A14.out).mono ?_); rintro e w' ⟨rfl, ⟨nd, rfl⟩⟩))
              go_meet
              case rel => exact ⟨_, (decide (t184 ≤ 32)), (by first | rfl | (simp; done) | (simp [*]; done)), H', ⟨by have := HJ4.out; first | omega | exact Nat.le_refl _⟩, by repeat (first | exact Drawn0.refl _ | apply Drawn0.step)⟩
            · rw [if_neg c13] at H
              have c13b0 : decide (1 ≤ t183) = false := decide_eq_false c13
              clear c13
              have H' := Aside0.mk H
              clear H
              go_wp2_with (first | ((with_reducible refine gate_callee (f := 16) rfl ?_); refine goesL_ (some 33) rfl rfl Try.func16 (by kernel_rfl) rfl #[.int .u64 (IntKind.u64.wrap (a0))] rfl (by (try simp only [List.map_toArray, List.map_cons, List.map_nil]); first | done | rfl | (simp only [List.length_drop, List.length_take]; rfl)) ?_; (with_reducible refine (culletlaw01_high.calls kj4 (IntKind.u64.wrap (a0)) t182 _ A10.out).mono ?_); rintro e w' ⟨rfl, ⟨nd, rfl⟩⟩; refine ⟨_, rfl, ?_⟩) | (go_at_call 16; (with_reducible refine (culletlaw01_high.calls kj4 (IntKind.u64.wrap (a1)) t183 _ A12.out).mono ?_); rintro e w' ⟨rfl, ⟨nd, rfl⟩⟩))
              go_meet
              case rel => exact ⟨_, (false), (by first | rfl | (simp; done) | (simp [*]; done)), H', ⟨by have := HJ4.out; first | omega | exact Nat.le_refl _⟩, by repeat (first | exact Drawn0.refl _ | apply Drawn0.step)⟩
          · rw [if_neg c11] at H
            have c11b0 : decide (1 ≤ t182) = false := decide_eq_false c11
            clear c11
            (first | rw [c11b0] | (simp only [i64_w, i32_w]; rw [c11b0]) | skip)
            have H' := Aside0.mk H
            clear H
            go_wp2_with (first | ((with_reducible refine gate_callee (f := 16) rfl ?_); refine goesL_ (some 33) rfl rfl Try.func16 (by kernel_rfl) rfl #[.int .u64 (IntKind.u64.wrap (a0))] rfl (by (try simp only [List.map_toArray, List.map_cons, List.map_nil]); first | done | rfl | (simp only [List.length_drop, List.length_take]; rfl)) ?_; (with_reducible refine (culletlaw01_high.calls kj4 (IntKind.u64.wrap (a0)) t182 _ A10.out).mono ?_); rintro e w' ⟨rfl, ⟨nd, rfl⟩⟩; refine ⟨_, rfl, ?_⟩))
            go_meet
            case rel => exact ⟨_, (false), (by first | rfl | (simp; done) | (simp [*]; done)), H', ⟨by have := HJ4.out; first | omega | exact Nat.le_refl _⟩, by repeat (first | exact Drawn0.refl _ | apply Drawn0.step)⟩
        case rest =>
          clear HC9
          try clear c1
          try clear p2
          try clear c4
          try clear c6
          try clear c7
          try clear c8
          try clear c11
          try clear c11b0
          try clear c13
          try clear c13b0
          try clear c14
          try clear p2
          obtain ⟨kq, x45_8, rfl, HA, HJ8, ⟨mc8, rfl⟩⟩ := hcut
          cases kq with
          | zero => exact absurd HA.out (by simp [culletlaw01_RingPrime.j1])
          | succ kj8 =>
            have H := HA.out
            clear HA
            simp only [culletlaw01_RingPrime.j1] at H
            have HC15 := Aside0.mk H
            clear H
            go_upto_if 45 with (fail)
            go_cut [] (fun wc => ∃ (kq : Nat), Aside0 (culletlaw01_RingPrime.j2 kq a0 a1 a2 t181 = some r) ∧ Aside0 (kq ≤ kj8) ∧ Drawn0 w wc)
            case first =>
              have H := HC15.out
              clear HC15
              by_cases c16 : x45_8 = true
              · subst c16
                have H1 : ((ring_Irreducible.f kj8 t181).bind fun bt185 => (if bt185.1 = true then (some false) else (if bt185.2 = 0 then (culletlaw01_RingPrime.j2 kj8 a0 a1 a2 t181) else (some false)))) = some r := by rw [if_pos rfl] at H; exact H
                clear H
                have H := H1
                clear H1
                replace H := Option.bind_eq_some_iff.mp H
                obtain ⟨⟨t185, t186⟩, A170, H⟩ := H
                replace H : (if t185 = true then (some false) else (if t186 = 0 then (culletlaw01_RingPrime.j2 kj8 a0 a1 a2 t181) else (some false))) = some r := H
                have A17 := Aside0.mk A170
                clear A170
                by_cases c18 : t185 = true
                · subst c18
                  have H1 : (some false) = some r := by rw [if_pos rfl] at H; exact H
                  clear H
                  have H := H1
                  clear H1
                  obtain rfl := Option.some.inj H
                  go_wp2_with (first | ((with_reducible refine gate_callee (f := 19) rfl ?_); refine goesL_ (some 48) rfl rfl Try.func19 (by kernel_rfl) rfl #[.int .u64 t181] rfl (by (try simp only [List.map_toArray, List.map_cons, List.map_nil]); first | done | rfl | (simp only [List.length_drop, List.length_take]; rfl)) ?_; (with_reducible refine (ring_Irreducible.calls kj8 t181 true t186 _ A17.out).mono ?_); rintro e w' ⟨rfl, ⟨nd, rfl⟩⟩; refine ⟨_, rfl, ?_⟩))
                  go_ret
                  exact ⟨by first | rfl | (simp; done) | (simp [*]; done), by repeat (first | exact Drawn0.refl _ | apply Drawn0.step)⟩
                · replace c18 := Bool.eq_false_iff.mpr c18
                  subst c18
                  have H1 : (if t186 = 0 then (culletlaw01_RingPrime.j2 kj8 a0 a1 a2 t181) else (some false)) = some r := by rw [if_neg (show ¬ (false = true) by decide)] at H; exact H
                  clear H
                  have H := H1
                  clear H1
                  by_cases c19 : t186 = 0
                  · rw [if_pos c19] at H
                    have c19b0 : (t186 == 0) = true := beq_iff_eq.mpr c19
                    have c19b1 : (t186 != 0) = false := bne_eq_false_iff_eq.mpr c19
                    clear c19
                    (first | rw [c19b0] | (simp only [i64_w, i32_w]; rw [c19b0]) | skip)
                    have H' := Aside0.mk H
                    clear H
                    go_wp2_with (first | ((with_reducible refine gate_callee (f := 19) rfl ?_); refine goesL_ (some 48) rfl rfl Try.func19 (by kernel_rfl) rfl #[.int .u64 t181] rfl (by (try simp only [List.map_toArray, List.map_cons, List.map_nil]); first | done | rfl | (simp only [List.length_drop, List.length_take]; rfl)) ?_; (with_reducible refine (ring_Irreducible.calls kj8 t181 false t186 _ A17.out).mono ?_); rintro e w' ⟨rfl, ⟨nd, rfl⟩⟩; refine ⟨_, rfl, ?_⟩))
                    go_meet
                    case rel => exact ⟨_, H', ⟨by have := HJ4.out; have := HJ8.out; first | omega | exact Nat.le_refl _⟩, by repeat (first | exact Drawn0.refl _ | apply Drawn0.step)⟩
                  · rw [if_neg c19] at H
                    have c19b0 : (t186 == 0) = false := beq_eq_false_iff_ne.mpr c19
                    have c19b1 : (t186 != 0) = true := bne_iff_ne.mpr c19
                    (first | rw [c19b0] | (simp only [i64_w, i32_w]; rw [c19b0]) | skip)
                    obtain rfl := Option.some.inj H
                    go_wp2_with (first | ((with_reducible refine gate_callee (f := 19) rfl ?_); refine goesL_ (some 48) rfl rfl Try.func19 (by kernel_rfl) rfl #[.int .u64 t181] rfl (by (try simp only [List.map_toArray, List.map_cons, List.map_nil]); first | done | rfl | (simp only [List.length_drop, List.length_take]; rfl)) ?_; (with_reducible refine (ring_Irreducible.calls kj8 t181 false t186 _ A17.out).mono ?_); rintro e w' ⟨rfl, ⟨nd, rfl⟩⟩; refine ⟨_, rfl, ?_⟩))
                    go_ret
                    exact ⟨by first | rfl | (simp; done) | (simp [*]; done), by repeat (first | exact Drawn0.refl _ | apply Drawn0.step)⟩
              · replace c16 := Bool.eq_false_iff.mpr c16
                subst c16
                have H1 : (culletlaw01_RingPrime.j2 kj8 a0 a1 a2 t181) = some r := by rw [if_neg (show ¬ (false = true) by decide)] at H; exact H
                clear H
                have H := H1
                clear H1
                have H' := Aside0.mk H
                clear H
                go_wp2
                go_meet
                case rel => exact ⟨_, H', ⟨by have := HJ4.out; have := HJ8.out; first | omega | exact Nat.le_refl _⟩, by repeat (first | exact Drawn0.refl _ | apply Drawn0.step)⟩
            case rest =>
              clear HC15
              try clear c1
              try clear p2
              try clear c4
              try clear c6
              try clear c7
              try clear c8
              try clear c11
              try clear c11b0
              try clear c13
              try clear c13b0
              try clear c14
              try clear c16
              try clear c18
              try clear c19
              try clear c19b0
              try clear c19b1
              try clear p2
              obtain ⟨kq, HA, HJ14, ⟨mc14, rfl⟩⟩ := hcut
              cases kq with
              | zero => exact absurd HA.out (by simp [culletlaw01_RingPrime.j2])
              | succ kj14 =>
                have H := HA.out
                clear HA
                simp only [culletlaw01_RingPrime.j2] at H
                replace H := Option.bind_eq_some_iff.mp H
                obtain ⟨⟨t187, t188⟩, A200, H⟩ := H
                replace H : (if t187 = true then ((ring_DivMod.f kj14 t181 a2).bind fun bt189 => ((ring_DivMod.f kj14 (IntKind.u64.wrap (a0)) a2).bind fun bt192 => ((ring_DivMod.f kj14 (IntKind.u64.wrap (a1)) a2).bind fun bt195 => (if bt189.2.2 = 0 then (if bt192.2.2 = 0 then (if bt195.2.2 = 0 then (if bt192.2.1 = 0 then (some ((bt189.2.1 == 0) == true)) else (some ((bt189.2.1 == 0) == (bt195.2.1 == 0)))) else (some false)) else (some false)) else (some false))))) else (some true)) = some r := H
                have A20 := Aside0.mk A200
                clear A200
                by_cases c21 : t187 = true
                · subst c21
                  have H1 : ((ring_DivMod.f kj14 t181 a2).bind fun bt189 => ((ring_DivMod.f kj14 (IntKind.u64.wrap (a0)) a2).bind fun bt192 => ((ring_DivMod.f kj14 (IntKind.u64.wrap (a1)) a2).bind fun bt195 => (if bt189.2.2 = 0 then (if bt192.2.2 = 0 then (if bt195.2.2 = 0 then (if bt192.2.1 = 0 then (some ((bt189.2.1 == 0) == true)) else (some ((bt189.2.1 == 0) == (bt195.2.1 == 0)))) else (some false)) else (some false)) else (some false))))) = some r := by rw [if_pos rfl] at H; exact H
                  clear H
                  have H := H1
                  clear H1
                  replace H := Option.bind_eq_some_iff.mp H
                  obtain ⟨⟨t189, t190, t191⟩, A220, H⟩ := H
                  replace H : ((ring_DivMod.f kj14 (IntKind.u64.wrap (a0)) a2).bind fun bt192 => ((ring_DivMod.f kj14 (IntKind.u64.wrap (a1)) a2).bind fun bt195 => (if t191 = 0 then (if bt192.2.2 = 0 then (if bt195.2.2 = 0 then (if bt192.2.1 = 0 then (some ((t190 == 0) == true)) else (some ((t190 == 0) == (bt195.2.1 == 0)))) else (some false)) else (some false)) else (some false)))) = some r := H
                  have A22 := Aside0.mk A220
                  clear A220
                  replace H := Option.bind_eq_some_iff.mp H
                  obtain ⟨⟨t192, t193, t194⟩, A230, H⟩ := H
                  replace H : ((ring_DivMod.f kj14 (IntKind.u64.wrap (a1)) a2).bind fun bt195 => (if t191 = 0 then (if t194 = 0 then (if bt195.2.2 = 0 then (if t193 = 0 then (some ((t190 == 0) == true)) else (some ((t190 == 0) == (bt195.2.1 == 0)))) else (some false)) else (some false)) else (some false))) = some r := H
                  have A23 := Aside0.mk A230
                  clear A230
                  replace H := Option.bind_eq_some_iff.mp H
                  obtain ⟨⟨t195, t196, t197⟩, A240, H⟩ := H
                  replace H : (if t191 = 0 then (if t194 = 0 then (if t197 = 0 then (if t193 = 0 then (some ((t190 == 0) == true)) else (some ((t190 == 0) == (t196 == 0)))) else (some false)) else (some false)) else (some false)) = some r := H
                  have A24 := Aside0.mk A240
                  clear A240
                  by_cases c25 : t191 = 0
                  · rw [if_pos c25] at H
                    have c25b0 : (t191 == 0) = true := beq_iff_eq.mpr c25
                    have c25b1 : (t191 != 0) = false := bne_eq_false_iff_eq.mpr c25
                    clear c25
                    by_cases c26 : t194 = 0
                    · rw [if_pos c26] at H
                      have c26b0 : (t194 == 0) = true := beq_iff_eq.mpr c26
                      have c26b1 : (t194 != 0) = false := bne_eq_false_iff_eq.mpr c26
                      clear c26
                      by_cases c27 : t197 = 0
                      · rw [if_pos c27] at H
                        have c27b0 : (t197 == 0) = true := beq_iff_eq.mpr c27
                        have c27b1 : (t197 != 0) = false := bne_eq_false_iff_eq.mpr c27
                        clear c27
                        by_cases c28 : t193 = 0
                        · rw [if_pos c28] at H
                          have c28b0 : (t193 == 0) = true := beq_iff_eq.mpr c28
                          have c28b1 : (t193 != 0) = false := bne_eq_false_iff_eq.mpr c28
                          clear c28
                          obtain rfl := Option.some.inj H
                          go_wp2_with (first | ((with_reducible refine gate_callee (f := 19) rfl ?_); refine goesL_ (some 58) rfl rfl Try.func19 (by kernel_rfl) rfl #[.int .u64 a2] rfl (by (try simp only [List.map_toArray, List.map_cons, List.map_nil]); first | done | rfl | (simp only [List.length_drop, List.length_take]; rfl)) ?_; (with_reducible refine (ring_Irreducible.calls kj14 a2 true t188 _ A20.out).mono ?_); rintro e w' ⟨rfl, ⟨nd, rfl⟩⟩; refine ⟨_, rfl, ?_⟩) | ((with_reducible refine gate_callee (f := 13) rfl ?_); refine goesL_ (some 66) rfl rfl Try.func13 (by kernel_rfl) rfl #[.int .u64 t181, .int .u64 a2] rfl (by (try simp only [List.map_toArray, List.map_cons, List.map_nil]); first | done | rfl | (simp only [List.length_drop, List.length_take]; rfl)) ?_; (with_reducible refine (ring_DivMod.calls kj14 t181 a2 t189 t190 t191 _ A22.out).mono ?_); rintro e w' ⟨rfl, ⟨nd, rfl⟩⟩; refine ⟨_, rfl, ?_⟩) | ((with_reducible refine gate_callee (f := 13) rfl ?_); refine goesL_ (some 74) rfl rfl Try.func13 (by kernel_rfl) rfl #[.int .u64 (IntKind.u64.wrap (a0)), .int .u64 a2] rfl (by (try simp only [List.map_toArray, List.map_cons, List.map_nil]); first | done | rfl | (simp only [List.length_drop, List.length_take]; rfl)) ?_; (with_reducible refine (ring_DivMod.calls kj14 (IntKind.u64.wrap (a0)) a2 t192 t193 t194 _ A23.out).mono ?_); rintro e w' ⟨rfl, ⟨nd, rfl⟩⟩; refine ⟨_, rfl, ?_⟩) | ((with_reducible refine gate_callee (f := 13) rfl ?_); refine goesL_ (some 82) rfl rfl Try.func13 (by kernel_rfl) rfl #[.int .u64 (IntKind.u64.wrap (a1)), .int .u64 a2] rfl (by (try simp only [List.map_toArray, List.map_cons, List.map_nil]); first | done | rfl | (simp only [List.length_drop, List.length_take]; rfl)) ?_; (with_reducible refine (ring_DivMod.calls kj14 (IntKind.u64.wrap (a1)) a2 t195 t196 t197 _ A24.out).mono ?_); rintro e w' ⟨rfl, ⟨nd, rfl⟩⟩; refine ⟨_, rfl, ?_⟩))
                          go_ret
                          exact ⟨by first | rfl | (simp; done) | (simp [*]; done), by repeat (first | exact Drawn0.refl _ | apply Drawn0.step)⟩
                        · rw [if_neg c28] at H
                          have c28b0 : (t193 == 0) = false := beq_eq_false_iff_ne.mpr c28
                          have c28b1 : (t193 != 0) = true := bne_iff_ne.mpr c28
                          obtain rfl := Option.some.inj H
                          go_wp2_with (first | ((with_reducible refine gate_callee (f := 19) rfl ?_); refine goesL_ (some 58) rfl rfl Try.func19 (by kernel_rfl) rfl #[.int .u64 a2] rfl (by (try simp only [List.map_toArray, List.map_cons, List.map_nil]); first | done | rfl | (simp only [List.length_drop, List.length_take]; rfl)) ?_; (with_reducible refine (ring_Irreducible.calls kj14 a2 true t188 _ A20.out).mono ?_); rintro e w' ⟨rfl, ⟨nd, rfl⟩⟩; refine ⟨_, rfl, ?_⟩) | ((with_reducible refine gate_callee (f := 13) rfl ?_); refine goesL_ (some 66) rfl rfl Try.func13 (by kernel_rfl) rfl #[.int .u64 t181, .int .u64 a2] rfl (by (try simp only [List.map_toArray, List.map_cons, List.map_nil]); first | done | rfl | (simp only [List.length_drop, List.length_take]; rfl)) ?_; (with_reducible refine (ring_DivMod.calls kj14 t181 a2 t189 t190 t191 _ A22.out).mono ?_); rintro e w' ⟨rfl, ⟨nd, rfl⟩⟩; refine ⟨_, rfl, ?_⟩) | ((with_reducible refine gate_callee (f := 13) rfl ?_); refine goesL_ (some 74) rfl rfl Try.func13 (by kernel_rfl) rfl #[.int .u64 (IntKind.u64.wrap (a0)), .int .u64 a2] rfl (by (try simp only [List.map_toArray, List.map_cons, List.map_nil]); first | done | rfl | (simp only [List.length_drop, List.length_take]; rfl)) ?_; (with_reducible refine (ring_DivMod.calls kj14 (IntKind.u64.wrap (a0)) a2 t192 t193 t194 _ A23.out).mono ?_); rintro e w' ⟨rfl, ⟨nd, rfl⟩⟩; refine ⟨_, rfl, ?_⟩) | ((with_reducible refine gate_callee (f := 13) rfl ?_); refine goesL_ (some 82) rfl rfl Try.func13 (by kernel_rfl) rfl #[.int .u64 (IntKind.u64.wrap (a1)), .int .u64 a2] rfl (by (try simp only [List.map_toArray, List.map_cons, List.map_nil]); first | done | rfl | (simp only [List.length_drop, List.length_take]; rfl)) ?_; (with_reducible refine (ring_DivMod.calls kj14 (IntKind.u64.wrap (a1)) a2 t195 t196 t197 _ A24.out).mono ?_); rintro e w' ⟨rfl, ⟨nd, rfl⟩⟩; refine ⟨_, rfl, ?_⟩))
                          go_ret
                          exact ⟨by first | rfl | (simp; done) | (simp [*]; done), by repeat (first | exact Drawn0.refl _ | apply Drawn0.step)⟩
                      · rw [if_neg c27] at H
                        have c27b0 : (t197 == 0) = false := beq_eq_false_iff_ne.mpr c27
                        have c27b1 : (t197 != 0) = true := bne_iff_ne.mpr c27
                        obtain rfl := Option.some.inj H
                        go_wp2_with (first | ((with_reducible refine gate_callee (f := 19) rfl ?_); refine goesL_ (some 58) rfl rfl Try.func19 (by kernel_rfl) rfl #[.int .u64 a2] rfl (by (try simp only [List.map_toArray, List.map_cons, List.map_nil]); first | done | rfl | (simp only [List.length_drop, List.length_take]; rfl)) ?_; (with_reducible refine (ring_Irreducible.calls kj14 a2 true t188 _ A20.out).mono ?_); rintro e w' ⟨rfl, ⟨nd, rfl⟩⟩; refine ⟨_, rfl, ?_⟩) | ((with_reducible refine gate_callee (f := 13) rfl ?_); refine goesL_ (some 66) rfl rfl Try.func13 (by kernel_rfl) rfl #[.int .u64 t181, .int .u64 a2] rfl (by (try simp only [List.map_toArray, List.map_cons, List.map_nil]); first | done | rfl | (simp only [List.length_drop, List.length_take]; rfl)) ?_; (with_reducible refine (ring_DivMod.calls kj14 t181 a2 t189 t190 t191 _ A22.out).mono ?_); rintro e w' ⟨rfl, ⟨nd, rfl⟩⟩; refine ⟨_, rfl, ?_⟩) | ((with_reducible refine gate_callee (f := 13) rfl ?_); refine goesL_ (some 74) rfl rfl Try.func13 (by kernel_rfl) rfl #[.int .u64 (IntKind.u64.wrap (a0)), .int .u64 a2] rfl (by (try simp only [List.map_toArray, List.map_cons, List.map_nil]); first | done | rfl | (simp only [List.length_drop, List.length_take]; rfl)) ?_; (with_reducible refine (ring_DivMod.calls kj14 (IntKind.u64.wrap (a0)) a2 t192 t193 t194 _ A23.out).mono ?_); rintro e w' ⟨rfl, ⟨nd, rfl⟩⟩; refine ⟨_, rfl, ?_⟩) | ((with_reducible refine gate_callee (f := 13) rfl ?_); refine goesL_ (some 82) rfl rfl Try.func13 (by kernel_rfl) rfl #[.int .u64 (IntKind.u64.wrap (a1)), .int .u64 a2] rfl (by (try simp only [List.map_toArray, List.map_cons, List.map_nil]); first | done | rfl | (simp only [List.length_drop, List.length_take]; rfl)) ?_; (with_reducible refine (ring_DivMod.calls kj14 (IntKind.u64.wrap (a1)) a2 t195 t196 t197 _ A24.out).mono ?_); rintro e w' ⟨rfl, ⟨nd, rfl⟩⟩; refine ⟨_, rfl, ?_⟩))
                        go_ret
                        exact ⟨by first | rfl | (simp; done) | (simp [*]; done), by repeat (first | exact Drawn0.refl _ | apply Drawn0.step)⟩
                    · rw [if_neg c26] at H
                      have c26b0 : (t194 == 0) = false := beq_eq_false_iff_ne.mpr c26
                      have c26b1 : (t194 != 0) = true := bne_iff_ne.mpr c26
                      obtain rfl := Option.some.inj H
                      go_wp2_with (first | ((with_reducible refine gate_callee (f := 19) rfl ?_); refine goesL_ (some 58) rfl rfl Try.func19 (by kernel_rfl) rfl #[.int .u64 a2] rfl (by (try simp only [List.map_toArray, List.map_cons, List.map_nil]); first | done | rfl | (simp only [List.length_drop, List.length_take]; rfl)) ?_; (with_reducible refine (ring_Irreducible.calls kj14 a2 true t188 _ A20.out).mono ?_); rintro e w' ⟨rfl, ⟨nd, rfl⟩⟩; refine ⟨_, rfl, ?_⟩) | ((with_reducible refine gate_callee (f := 13) rfl ?_); refine goesL_ (some 66) rfl rfl Try.func13 (by kernel_rfl) rfl #[.int .u64 t181, .int .u64 a2] rfl (by (try simp only [List.map_toArray, List.map_cons, List.map_nil]); first | done | rfl | (simp only [List.length_drop, List.length_take]; rfl)) ?_; (with_reducible refine (ring_DivMod.calls kj14 t181 a2 t189 t190 t191 _ A22.out).mono ?_); rintro e w' ⟨rfl, ⟨nd, rfl⟩⟩; refine ⟨_, rfl, ?_⟩) | ((with_reducible refine gate_callee (f := 13) rfl ?_); refine goesL_ (some 74) rfl rfl Try.func13 (by kernel_rfl) rfl #[.int .u64 (IntKind.u64.wrap (a0)), .int .u64 a2] rfl (by (try simp only [List.map_toArray, List.map_cons, List.map_nil]); first | done | rfl | (simp only [List.length_drop, List.length_take]; rfl)) ?_; (with_reducible refine (ring_DivMod.calls kj14 (IntKind.u64.wrap (a0)) a2 t192 t193 t194 _ A23.out).mono ?_); rintro e w' ⟨rfl, ⟨nd, rfl⟩⟩; refine ⟨_, rfl, ?_⟩) | ((with_reducible refine gate_callee (f := 13) rfl ?_); refine goesL_ (some 82) rfl rfl Try.func13 (by kernel_rfl) rfl #[.int .u64 (IntKind.u64.wrap (a1)), .int .u64 a2] rfl (by (try simp only [List.map_toArray, List.map_cons, List.map_nil]); first | done | rfl | (simp only [List.length_drop, List.length_take]; rfl)) ?_; (with_reducible refine (ring_DivMod.calls kj14 (IntKind.u64.wrap (a1)) a2 t195 t196 t197 _ A24.out).mono ?_); rintro e w' ⟨rfl, ⟨nd, rfl⟩⟩; refine ⟨_, rfl, ?_⟩))
                      go_ret
                      exact ⟨by first | rfl | (simp; done) | (simp [*]; done), by repeat (first | exact Drawn0.refl _ | apply Drawn0.step)⟩
                  · rw [if_neg c25] at H
                    have c25b0 : (t191 == 0) = false := beq_eq_false_iff_ne.mpr c25
                    have c25b1 : (t191 != 0) = true := bne_iff_ne.mpr c25
                    obtain rfl := Option.some.inj H
                    go_wp2_with (first | ((with_reducible refine gate_callee (f := 19) rfl ?_); refine goesL_ (some 58) rfl rfl Try.func19 (by kernel_rfl) rfl #[.int .u64 a2] rfl (by (try simp only [List.map_toArray, List.map_cons, List.map_nil]); first | done | rfl | (simp only [List.length_drop, List.length_take]; rfl)) ?_; (with_reducible refine (ring_Irreducible.calls kj14 a2 true t188 _ A20.out).mono ?_); rintro e w' ⟨rfl, ⟨nd, rfl⟩⟩; refine ⟨_, rfl, ?_⟩) | ((with_reducible refine gate_callee (f := 13) rfl ?_); refine goesL_ (some 66) rfl rfl Try.func13 (by kernel_rfl) rfl #[.int .u64 t181, .int .u64 a2] rfl (by (try simp only [List.map_toArray, List.map_cons, List.map_nil]); first | done | rfl | (simp only [List.length_drop, List.length_take]; rfl)) ?_; (with_reducible refine (ring_DivMod.calls kj14 t181 a2 t189 t190 t191 _ A22.out).mono ?_); rintro e w' ⟨rfl, ⟨nd, rfl⟩⟩; refine ⟨_, rfl, ?_⟩) | ((with_reducible refine gate_callee (f := 13) rfl ?_); refine goesL_ (some 74) rfl rfl Try.func13 (by kernel_rfl) rfl #[.int .u64 (IntKind.u64.wrap (a0)), .int .u64 a2] rfl (by (try simp only [List.map_toArray, List.map_cons, List.map_nil]); first | done | rfl | (simp only [List.length_drop, List.length_take]; rfl)) ?_; (with_reducible refine (ring_DivMod.calls kj14 (IntKind.u64.wrap (a0)) a2 t192 t193 t194 _ A23.out).mono ?_); rintro e w' ⟨rfl, ⟨nd, rfl⟩⟩; refine ⟨_, rfl, ?_⟩) | ((with_reducible refine gate_callee (f := 13) rfl ?_); refine goesL_ (some 82) rfl rfl Try.func13 (by kernel_rfl) rfl #[.int .u64 (IntKind.u64.wrap (a1)), .int .u64 a2] rfl (by (try simp only [List.map_toArray, List.map_cons, List.map_nil]); first | done | rfl | (simp only [List.length_drop, List.length_take]; rfl)) ?_; (with_reducible refine (ring_DivMod.calls kj14 (IntKind.u64.wrap (a1)) a2 t195 t196 t197 _ A24.out).mono ?_); rintro e w' ⟨rfl, ⟨nd, rfl⟩⟩; refine ⟨_, rfl, ?_⟩))
                    go_ret
                    exact ⟨by first | rfl | (simp; done) | (simp [*]; done), by repeat (first | exact Drawn0.refl _ | apply Drawn0.step)⟩
                · replace c21 := Bool.eq_false_iff.mpr c21
                  subst c21
                  have H1 : (some true) = some r := by rw [if_neg (show ¬ (false = true) by decide)] at H; exact H
                  clear H
                  have H := H1
                  clear H1
                  obtain rfl := Option.some.inj H
                  go_wp2_with (first | ((with_reducible refine gate_callee (f := 19) rfl ?_); refine goesL_ (some 58) rfl rfl Try.func19 (by kernel_rfl) rfl #[.int .u64 a2] rfl (by (try simp only [List.map_toArray, List.map_cons, List.map_nil]); first | done | rfl | (simp only [List.length_drop, List.length_take]; rfl)) ?_; (with_reducible refine (ring_Irreducible.calls kj14 a2 false t188 _ A20.out).mono ?_); rintro e w' ⟨rfl, ⟨nd, rfl⟩⟩; refine ⟨_, rfl, ?_⟩))
                  go_ret
                  exact ⟨by first | rfl | (simp; done) | (simp [*]; done), by repeat (first | exact Drawn0.refl _ | apply Drawn0.step)⟩

/-- THE ONE PURE STATEMENT of culletlaw01_RingPrime: yours. -/
def culletlaw01_RingPrime.Pure : Prop := ∀ (a0 : Int) (a1 : Int) (a2 : Int), (Lit.int .u32 a0).wf = true → (Lit.int .u32 a1).wf = true → (Lit.int .u64 a2).wf = true → ∃ k, culletlaw01_RingPrime.f k a0 a1 a2 = some true
theorem culletlaw01_RingPrime.walk (P : culletlaw01_RingPrime.Pure) (a0 : Int) (a1 : Int) (a2 : Int) (w : World) (w0 : (Lit.int .u32 a0).wf = true) (w1 : (Lit.int .u32 a1).wf = true) (w2 : (Lit.int .u64 a2).wf = true) :
    Calls Try.prog 8 #[.int .u32 a0, .int .u32 a1, .int .u64 a2] w fun e w' => e = .returned (.bool true) ∧ Below w.heap.size w w' := by
  obtain ⟨k, h⟩ := P a0 a1 a2 w0 w1 w2
  refine (culletlaw01_RingPrime.calls k a0 a1 a2 true w h).mono ?_
  rintro e w' ⟨rfl, hd⟩
  exact ⟨rfl, hd.below⟩

end Go.Proofs.Ytilacemjflomfaa.Q
