-- Printed for this claim by mp.py, a program of its prover, through the kit's print. Lean checks it.
import Derived.Test.YtilacemjflomfaaQx0
import Derived.Test.YtilacemjflomfaaQx1
namespace Go.Proofs.Ytilacemjflomfaa.Q
open Go.RowKit Go.Proofs.YtilacemjflomfaaW.PrintWords Go.Proofs.YtilacemjflomfaaW.PrintLast Go.Proofs.YtilacemjflomfaaW.PrintMore
attribute [local go_sem] max2_int min2_int max_two min_two max_three min_three max_four min_four   -- for this text's walks alone
set_option linter.unusedVariables false
set_option linter.unusedSimpArgs false

/-! ### culletlaw01_RingGreatest: function 4 -/
mutual
def culletlaw01_RingGreatest.j0 : Nat → Int → Int → Int → Bool → Option (Bool)
  | 0, _, _, _, _ => none
  | k + 1, x0, x1, x2, x19 => if x19 = true then (if x2 = 0 then ((ring_Gcd.f k 6 5).bind fun t109 => (some (t109 == 3))) else (some false)) else ((ring_Gcd.f k (IntKind.u64.wrap (x0)) (IntKind.u64.wrap (x1))).bind fun t110 => (if x0 = 0 then (culletlaw01_RingGreatest.j1 k x0 x1 x2 t110 (x1 == 0)) else (culletlaw01_RingGreatest.j1 k x0 x1 x2 t110 false)))
def culletlaw01_RingGreatest.j1 : Nat → Int → Int → Int → Int → Bool → Option (Bool)
  | 0, _, _, _, _, _ => none
  | k + 1, x0, x1, x2, x7, x36 => if x36 = true then (some (x7 == 0)) else ((ring_DivMod.f k (IntKind.u64.wrap (x0)) x7).bind fun bt111 => ((ring_DivMod.f k (IntKind.u64.wrap (x1)) x7).bind fun bt114 => (if bt111.2.2 = 0 then (if bt114.2.2 = 0 then (if bt111.2.1 = 0 then (if bt114.2.1 = 0 then (culletlaw01_RingGreatest.j2 k x0 x1 x2 x7 (decide (x7 > 4294967295))) else (culletlaw01_RingGreatest.j2 k x0 x1 x2 x7 true)) else (culletlaw01_RingGreatest.j2 k x0 x1 x2 x7 true)) else (culletlaw01_RingGreatest.j2 k x0 x1 x2 x7 true)) else (culletlaw01_RingGreatest.j2 k x0 x1 x2 x7 true))))
def culletlaw01_RingGreatest.j2 : Nat → Int → Int → Int → Int → Bool → Option (Bool)
  | 0, _, _, _, _, _ => none
  | k + 1, x0, x1, x2, x7, x72 => if x72 = true then (some false) else ((ring_Mul.f k x0 x2).bind fun t117 => ((ring_Mul.f k x1 x2).bind fun t118 => ((ring_Gcd.f k t117 t118).bind fun t119 => ((ring_Mul.f k ((x7) % 4294967296) x2).bind fun t120 => (some (t119 == t120))))))
end
def culletlaw01_RingGreatest.f (k : Nat) (a0 : Int) (a1 : Int) (a2 : Int) : Option (Bool) := (ring_Gcd.f k 6 5).bind fun t108 => (if t108 = 3 then (culletlaw01_RingGreatest.j0 k a0 a1 a2 (a2 == 0)) else (culletlaw01_RingGreatest.j0 k a0 a1 a2 true))
theorem culletlaw01_RingGreatest.mono_l : ∀ k, (∀ y0 y1 y2 y3, LeO (culletlaw01_RingGreatest.j0 k y0 y1 y2 y3) (culletlaw01_RingGreatest.j0 (k + 1) y0 y1 y2 y3)) ∧ (∀ y0 y1 y2 y3 y4, LeO (culletlaw01_RingGreatest.j1 k y0 y1 y2 y3 y4) (culletlaw01_RingGreatest.j1 (k + 1) y0 y1 y2 y3 y4)) ∧ (∀ y0 y1 y2 y3 y4, LeO (culletlaw01_RingGreatest.j2 k y0 y1 y2 y3 y4) (culletlaw01_RingGreatest.j2 (k + 1) y0 y1 y2 y3 y4))
  | 0 => ⟨fun _ _ _ _ r h => by simp [culletlaw01_RingGreatest.j0] at h, fun _ _ _ _ _ r h => by simp [culletlaw01_RingGreatest.j1] at h, fun _ _ _ _ _ r h => by simp [culletlaw01_RingGreatest.j2] at h⟩
  | k + 1 => by
    obtain ⟨ih0, ih1, ih2⟩ := culletlaw01_RingGreatest.mono_l k
    refine ⟨?_, ?_, ?_⟩
    · intro y0 y1 y2 y3
      unfold culletlaw01_RingGreatest.j0
      repeat' first
      | (with_reducible exact ih0 _ _ _ _)
      | (with_reducible exact ih1 _ _ _ _ _)
      | (with_reducible exact ih2 _ _ _ _ _)
      | (with_reducible exact ring_DivMod.mono _ _ _)
      | (with_reducible exact ring_Gcd.mono _ _ _)
      | (with_reducible exact ring_Mul.mono _ _ _)
      | (with_reducible exact LeO.refl _)
      | (with_reducible exact LeO.none _)
      | (with_reducible refine LeO.ite ?_ ?_)
      | (with_reducible refine LeO.bind ?_ (fun _ => ?_))
      | exact ih0 _ _ _ _
      | exact ih1 _ _ _ _ _
      | exact ih2 _ _ _ _ _
      | exact ring_DivMod.mono _ _ _
      | exact ring_Gcd.mono _ _ _
      | exact ring_Mul.mono _ _ _
      | exact LeO.none _
      | refine LeO.ite ?_ ?_
      | refine LeO.bind ?_ (fun _ => ?_)
    · intro y0 y1 y2 y3 y4
      unfold culletlaw01_RingGreatest.j1
      repeat' first
      | (with_reducible exact ih0 _ _ _ _)
      | (with_reducible exact ih1 _ _ _ _ _)
      | (with_reducible exact ih2 _ _ _ _ _)
      | (with_reducible exact ring_DivMod.mono _ _ _)
      | (with_reducible exact ring_Gcd.mono _ _ _)
      | (with_reducible exact ring_Mul.mono _ _ _)
      | (with_reducible exact LeO.refl _)
      | (with_reducible exact LeO.none _)
      | (with_reducible refine LeO.ite ?_ ?_)
      | (with_reducible refine LeO.bind ?_ (fun _ => ?_))
      | exact ih0 _ _ _ _
      | exact ih1 _ _ _ _ _
      | exact ih2 _ _ _ _ _
      | exact ring_DivMod.mono _ _ _
      | exact ring_Gcd.mono _ _ _
      | exact ring_Mul.mono _ _ _
      | exact LeO.none _
      | refine LeO.ite ?_ ?_
      | refine LeO.bind ?_ (fun _ => ?_)
    · intro y0 y1 y2 y3 y4
      unfold culletlaw01_RingGreatest.j2
      repeat' first
      | (with_reducible exact ih0 _ _ _ _)
      | (with_reducible exact ih1 _ _ _ _ _)
      | (with_reducible exact ih2 _ _ _ _ _)
      | (with_reducible exact ring_DivMod.mono _ _ _)
      | (with_reducible exact ring_Gcd.mono _ _ _)
      | (with_reducible exact ring_Mul.mono _ _ _)
      | (with_reducible exact LeO.refl _)
      | (with_reducible exact LeO.none _)
      | (with_reducible refine LeO.ite ?_ ?_)
      | (with_reducible refine LeO.bind ?_ (fun _ => ?_))
      | exact ih0 _ _ _ _
      | exact ih1 _ _ _ _ _
      | exact ih2 _ _ _ _ _
      | exact ring_DivMod.mono _ _ _
      | exact ring_Gcd.mono _ _ _
      | exact ring_Mul.mono _ _ _
      | exact LeO.none _
      | refine LeO.ite ?_ ?_
      | refine LeO.bind ?_ (fun _ => ?_)
theorem culletlaw01_RingGreatest.mono : ∀ a0 a1 a2 k, LeO (culletlaw01_RingGreatest.f k a0 a1 a2) (culletlaw01_RingGreatest.f (k + 1) a0 a1 a2) := by
  intro a0 a1 a2 k
  obtain ⟨ih0, ih1, ih2⟩ := culletlaw01_RingGreatest.mono_l k
  unfold culletlaw01_RingGreatest.f
  repeat' first
      | (with_reducible exact ih0 _ _ _ _)
      | (with_reducible exact ih1 _ _ _ _ _)
      | (with_reducible exact ih2 _ _ _ _ _)
      | (with_reducible exact ring_DivMod.mono _ _ _)
      | (with_reducible exact ring_Gcd.mono _ _ _)
      | (with_reducible exact ring_Mul.mono _ _ _)
      | (with_reducible exact LeO.refl _)
      | (with_reducible exact LeO.none _)
      | (with_reducible refine LeO.ite ?_ ?_)
      | (with_reducible refine LeO.bind ?_ (fun _ => ?_))
      | exact ih0 _ _ _ _
      | exact ih1 _ _ _ _ _
      | exact ih2 _ _ _ _ _
      | exact ring_DivMod.mono _ _ _
      | exact ring_Gcd.mono _ _ _
      | exact ring_Mul.mono _ _ _
      | exact LeO.none _
      | refine LeO.ite ?_ ?_
      | refine LeO.bind ?_ (fun _ => ?_)
set_option maxHeartbeats 8000000 in
set_option maxRecDepth 100000 in
theorem culletlaw01_RingGreatest.calls (k : Nat) (a0 : Int) (a1 : Int) (a2 : Int) (r : Bool) (w : World) (h : culletlaw01_RingGreatest.f k a0 a1 a2 = some r) :
    Calls Try.prog 4 #[.int .u32 a0, .int .u32 a1, .int .u32 a2] w fun e w' => e = .returned (.bool r) ∧ Drawn0 w w' := by
  have H : ((ring_Gcd.f k 6 5).bind fun t108 => (if t108 = 3 then (culletlaw01_RingGreatest.j0 k a0 a1 a2 (a2 == 0)) else (culletlaw01_RingGreatest.j0 k a0 a1 a2 true))) = some r := h
  clear h
  have HC4 := Aside0.mk H
  clear H
  go_enter Try.func4, Try.ntmps4
  go_upto_region 1 with (fail)
  go_cut [19] (fun v19 wc => ∃ (kq : Nat) (x19_3 : Bool), v19 = .bool x19_3 ∧ Aside0 (culletlaw01_RingGreatest.j0 kq a0 a1 a2 x19_3 = some r) ∧ Aside0 (kq ≤ k) ∧ Drawn0 w wc)
  case first =>
    have H := HC4.out
    clear HC4
    replace H := Option.bind_eq_some_iff.mp H
    obtain ⟨t108, A50, H⟩ := H
    replace H : (if t108 = 3 then (culletlaw01_RingGreatest.j0 k a0 a1 a2 (a2 == 0)) else (culletlaw01_RingGreatest.j0 k a0 a1 a2 true)) = some r := H
    have A5 := Aside0.mk A50
    clear A50
    by_cases c6 : t108 = 3
    · rw [if_pos c6] at H
      have c6b0 : (t108 == 3) = true := beq_iff_eq.mpr c6
      have c6b1 : (t108 != 3) = false := bne_eq_false_iff_eq.mpr c6
      clear c6
      (first | rw [c6b0] | (simp only [i64_w, i32_w]; rw [c6b0]) | skip)
      have H' := Aside0.mk H
      clear H
      go_wp2_with (first | ((with_reducible refine gate_callee (f := 12) rfl ?_); refine goesL_ (some 14) rfl rfl Try.func12 (by kernel_rfl) rfl #[.int .u64 6, .int .u64 5] rfl (by (try simp only [List.map_toArray, List.map_cons, List.map_nil]); first | done | rfl | (simp only [List.length_drop, List.length_take]; rfl)) ?_; (with_reducible refine (ring_Gcd.calls k 6 5 t108 _ A5.out).mono ?_); rintro e w' ⟨rfl, ⟨nd, rfl⟩⟩; refine ⟨_, rfl, ?_⟩))
      go_meet
      case rel => exact ⟨_, ((a2 == 0)), (by first | rfl | (simp; done) | (simp [*]; done)), H', ⟨by first | omega | exact Nat.le_refl _⟩, by repeat (first | exact Drawn0.refl _ | apply Drawn0.step)⟩
    · rw [if_neg c6] at H
      have c6b0 : (t108 == 3) = false := beq_eq_false_iff_ne.mpr c6
      have c6b1 : (t108 != 3) = true := bne_iff_ne.mpr c6
      (first | rw [c6b0] | (simp only [i64_w, i32_w]; rw [c6b0]) | skip)
      have H' := Aside0.mk H
      clear H
      go_wp2_with (first | ((with_reducible refine gate_callee (f := 12) rfl ?_); refine goesL_ (some 14) rfl rfl Try.func12 (by kernel_rfl) rfl #[.int .u64 6, .int .u64 5] rfl (by (try simp only [List.map_toArray, List.map_cons, List.map_nil]); first | done | rfl | (simp only [List.length_drop, List.length_take]; rfl)) ?_; (with_reducible refine (ring_Gcd.calls k 6 5 t108 _ A5.out).mono ?_); rintro e w' ⟨rfl, ⟨nd, rfl⟩⟩; refine ⟨_, rfl, ?_⟩))
      go_meet
      case rel => exact ⟨_, (true), (by first | rfl | (simp; done) | (simp [*]; done)), H', ⟨by first | omega | exact Nat.le_refl _⟩, by repeat (first | exact Drawn0.refl _ | apply Drawn0.step)⟩
  case rest =>
    clear HC4
    try clear c1
    try clear p2
    try clear c4
    try clear c6
    try clear c6b0
    try clear c6b1
    obtain ⟨kq, x19_3, rfl, HA, HJ3, ⟨mc3, rfl⟩⟩ := hcut
    cases kq with
    | zero => exact absurd HA.out (by simp [culletlaw01_RingGreatest.j0])
    | succ kj3 =>
      have H := HA.out
      clear HA
      simp only [culletlaw01_RingGreatest.j0] at H
      by_cases c7 : x19_3 = true
      · subst c7
        have H1 : (if a2 = 0 then ((ring_Gcd.f kj3 6 5).bind fun t109 => (some (t109 == 3))) else (some false)) = some r := by rw [if_pos rfl] at H; exact H
        clear H
        have H := H1
        clear H1
        by_cases c8 : a2 = 0
        · rw [if_pos c8] at H
          have c8b0 : (a2 == 0) = true := beq_iff_eq.mpr c8
          have c8b1 : (a2 != 0) = false := bne_eq_false_iff_eq.mpr c8
          clear c8
          replace H := Option.bind_eq_some_iff.mp H
          obtain ⟨t109, A90, H⟩ := H
          replace H : (some (t109 == 3)) = some r := H
          have A9 := Aside0.mk A90
          clear A90
          obtain rfl := Option.some.inj H
          go_wp2_with (first | (go_at_call 12; (with_reducible refine (ring_Gcd.calls kj3 6 5 t109 _ A9.out).mono ?_); rintro e w' ⟨rfl, ⟨nd, rfl⟩⟩))
          go_ret
          exact ⟨by first | rfl | (simp; done) | (simp [*]; done), by repeat (first | exact Drawn0.refl _ | apply Drawn0.step)⟩
        · rw [if_neg c8] at H
          have c8b0 : (a2 == 0) = false := beq_eq_false_iff_ne.mpr c8
          have c8b1 : (a2 != 0) = true := bne_iff_ne.mpr c8
          obtain rfl := Option.some.inj H
          go_wp2
          go_ret
          exact ⟨by first | rfl | (simp; done) | (simp [*]; done), by repeat (first | exact Drawn0.refl _ | apply Drawn0.step)⟩
      · replace c7 := Bool.eq_false_iff.mpr c7
        subst c7
        have H1 : ((ring_Gcd.f kj3 (IntKind.u64.wrap (a0)) (IntKind.u64.wrap (a1))).bind fun t110 => (if a0 = 0 then (culletlaw01_RingGreatest.j1 kj3 a0 a1 a2 t110 (a1 == 0)) else (culletlaw01_RingGreatest.j1 kj3 a0 a1 a2 t110 false))) = some r := by rw [if_neg (show ¬ (false = true) by decide)] at H; exact H
        clear H
        have H := H1
        clear H1
        replace H := Option.bind_eq_some_iff.mp H
        obtain ⟨t110, A100, H⟩ := H
        replace H : (if a0 = 0 then (culletlaw01_RingGreatest.j1 kj3 a0 a1 a2 t110 (a1 == 0)) else (culletlaw01_RingGreatest.j1 kj3 a0 a1 a2 t110 false)) = some r := H
        have A10 := Aside0.mk A100
        clear A100
        have HC11 := Aside0.mk H
        clear H
        go_upto_region 4 with (first | ((with_reducible refine gate_callee (f := 12) rfl ?_); refine goesL_ (some 30) rfl rfl Try.func12 (by kernel_rfl) rfl #[.int .u64 (IntKind.u64.wrap (a0)), .int .u64 (IntKind.u64.wrap (a1))] rfl (by (try simp only [List.map_toArray, List.map_cons, List.map_nil]); first | done | rfl | (simp only [List.length_drop, List.length_take]; rfl)) ?_; (with_reducible refine (ring_Gcd.calls kj3 (IntKind.u64.wrap (a0)) (IntKind.u64.wrap (a1)) t110 _ A10.out).mono ?_); rintro e w' ⟨rfl, ⟨nd, rfl⟩⟩; refine ⟨_, rfl, ?_⟩))
        (try simp only [Act.put, List.setIfInBounds_toArray, List.set_cons_zero, List.set_cons_succ])
        go_cut [36] (fun v36 wc => ∃ (kq : Nat) (x36_10 : Bool), v36 = .bool x36_10 ∧ Aside0 (culletlaw01_RingGreatest.j1 kq a0 a1 a2 t110 x36_10 = some r) ∧ Aside0 (kq ≤ kj3) ∧ Drawn0 w wc)
        case first =>
          have H := HC11.out
          clear HC11
          by_cases c12 : a0 = 0
          · rw [if_pos c12] at H
            have c12b0 : (a0 == 0) = true := beq_iff_eq.mpr c12
            have c12b1 : (a0 != 0) = false := bne_eq_false_iff_eq.mpr c12
            clear c12
            (first | rw [c12b0] | (simp only [i64_w, i32_w]; rw [c12b0]) | skip)
            have H' := Aside0.mk H
            clear H
            go_wp2
            go_meet
            case rel => exact ⟨_, ((a1 == 0)), (by first | rfl | (simp; done) | (simp [*]; done)), H', ⟨by have := HJ3.out; first | omega | exact Nat.le_refl _⟩, by repeat (first | exact Drawn0.refl _ | apply Drawn0.step)⟩
          · rw [if_neg c12] at H
            have c12b0 : (a0 == 0) = false := beq_eq_false_iff_ne.mpr c12
            have c12b1 : (a0 != 0) = true := bne_iff_ne.mpr c12
            (first | rw [c12b0] | (simp only [i64_w, i32_w]; rw [c12b0]) | skip)
            have H' := Aside0.mk H
            clear H
            go_wp2
            go_meet
            case rel => exact ⟨_, (false), (by first | rfl | (simp; done) | (simp [*]; done)), H', ⟨by have := HJ3.out; first | omega | exact Nat.le_refl _⟩, by repeat (first | exact Drawn0.refl _ | apply Drawn0.step)⟩
        case rest =>
          clear HC11
          try clear c1
          try clear p2
          try clear c3
          try clear c4
          try clear c6
          try clear c6b0
          try clear c6b1
          try clear c7
          try clear c8
          try clear c8b0
          try clear c8b1
          try clear c12
          try clear c12b0
          try clear c12b1
          try clear p2
          obtain ⟨kq, x36_10, rfl, HA, HJ10, ⟨mc10, rfl⟩⟩ := hcut
          cases kq with
          | zero => exact absurd HA.out (by simp [culletlaw01_RingGreatest.j1])
          | succ kj10 =>
            have H := HA.out
            clear HA
            simp only [culletlaw01_RingGreatest.j1] at H
            by_cases c13 : x36_10 = true
            · subst c13
              have H1 : (some (t110 == 0)) = some r := by rw [if_pos rfl] at H; exact H
              clear H
              have H := H1
              clear H1
              obtain rfl := Option.some.inj H
              go_wp2
              go_ret
              exact ⟨by first | rfl | (simp; done) | (simp [*]; done), by repeat (first | exact Drawn0.refl _ | apply Drawn0.step)⟩
            · replace c13 := Bool.eq_false_iff.mpr c13
              subst c13
              have H1 : ((ring_DivMod.f kj10 (IntKind.u64.wrap (a0)) t110).bind fun bt111 => ((ring_DivMod.f kj10 (IntKind.u64.wrap (a1)) t110).bind fun bt114 => (if bt111.2.2 = 0 then (if bt114.2.2 = 0 then (if bt111.2.1 = 0 then (if bt114.2.1 = 0 then (culletlaw01_RingGreatest.j2 kj10 a0 a1 a2 t110 (decide (t110 > 4294967295))) else (culletlaw01_RingGreatest.j2 kj10 a0 a1 a2 t110 true)) else (culletlaw01_RingGreatest.j2 kj10 a0 a1 a2 t110 true)) else (culletlaw01_RingGreatest.j2 kj10 a0 a1 a2 t110 true)) else (culletlaw01_RingGreatest.j2 kj10 a0 a1 a2 t110 true)))) = some r := by rw [if_neg (show ¬ (false = true) by decide)] at H; exact H
              clear H
              have H := H1
              clear H1
              replace H := Option.bind_eq_some_iff.mp H
              obtain ⟨⟨t111, t112, t113⟩, A140, H⟩ := H
              replace H : ((ring_DivMod.f kj10 (IntKind.u64.wrap (a1)) t110).bind fun bt114 => (if t113 = 0 then (if bt114.2.2 = 0 then (if t112 = 0 then (if bt114.2.1 = 0 then (culletlaw01_RingGreatest.j2 kj10 a0 a1 a2 t110 (decide (t110 > 4294967295))) else (culletlaw01_RingGreatest.j2 kj10 a0 a1 a2 t110 true)) else (culletlaw01_RingGreatest.j2 kj10 a0 a1 a2 t110 true)) else (culletlaw01_RingGreatest.j2 kj10 a0 a1 a2 t110 true)) else (culletlaw01_RingGreatest.j2 kj10 a0 a1 a2 t110 true))) = some r := H
              have A14 := Aside0.mk A140
              clear A140
              replace H := Option.bind_eq_some_iff.mp H
              obtain ⟨⟨t114, t115, t116⟩, A150, H⟩ := H
              replace H : (if t113 = 0 then (if t116 = 0 then (if t112 = 0 then (if t115 = 0 then (culletlaw01_RingGreatest.j2 kj10 a0 a1 a2 t110 (decide (t110 > 4294967295))) else (culletlaw01_RingGreatest.j2 kj10 a0 a1 a2 t110 true)) else (culletlaw01_RingGreatest.j2 kj10 a0 a1 a2 t110 true)) else (culletlaw01_RingGreatest.j2 kj10 a0 a1 a2 t110 true)) else (culletlaw01_RingGreatest.j2 kj10 a0 a1 a2 t110 true)) = some r := H
              have A15 := Aside0.mk A150
              clear A150
              have HC16 := Aside0.mk H
              clear H
              go_upto_region 8 with (first | ((with_reducible refine gate_callee (f := 13) rfl ?_); refine goesL_ (some 43) rfl rfl Try.func13 (by kernel_rfl) rfl #[.int .u64 (IntKind.u64.wrap (a0)), .int .u64 t110] rfl (by (try simp only [List.map_toArray, List.map_cons, List.map_nil]); first | done | rfl | (simp only [List.length_drop, List.length_take]; rfl)) ?_; (with_reducible refine (ring_DivMod.calls kj10 (IntKind.u64.wrap (a0)) t110 t111 t112 t113 _ A14.out).mono ?_); rintro e w' ⟨rfl, ⟨nd, rfl⟩⟩; refine ⟨_, rfl, ?_⟩) | ((with_reducible refine gate_callee (f := 13) rfl ?_); refine goesL_ (some 51) rfl rfl Try.func13 (by kernel_rfl) rfl #[.int .u64 (IntKind.u64.wrap (a1)), .int .u64 t110] rfl (by (try simp only [List.map_toArray, List.map_cons, List.map_nil]); first | done | rfl | (simp only [List.length_drop, List.length_take]; rfl)) ?_; (with_reducible refine (ring_DivMod.calls kj10 (IntKind.u64.wrap (a1)) t110 t114 t115 t116 _ A15.out).mono ?_); rintro e w' ⟨rfl, ⟨nd, rfl⟩⟩; refine ⟨_, rfl, ?_⟩))
              (try simp only [Act.put, List.setIfInBounds_toArray, List.set_cons_zero, List.set_cons_succ])
              go_cut [72] (fun v72 wc => ∃ (kq : Nat) (x72_15 : Bool), v72 = .bool x72_15 ∧ Aside0 (culletlaw01_RingGreatest.j2 kq a0 a1 a2 t110 x72_15 = some r) ∧ Aside0 (kq ≤ kj10) ∧ Drawn0 w wc)
              case first =>
                have H := HC16.out
                clear HC16
                by_cases c17 : t113 = 0
                · rw [if_pos c17] at H
                  have c17b0 : (t113 == 0) = true := beq_iff_eq.mpr c17
                  have c17b1 : (t113 != 0) = false := bne_eq_false_iff_eq.mpr c17
                  clear c17
                  (first | rw [c17b0] | (simp only [i64_w, i32_w]; rw [c17b0]) | skip)
                  by_cases c18 : t116 = 0
                  · rw [if_pos c18] at H
                    have c18b0 : (t116 == 0) = true := beq_iff_eq.mpr c18
                    have c18b1 : (t116 != 0) = false := bne_eq_false_iff_eq.mpr c18
                    clear c18
                    by_cases c19 : t112 = 0
                    · rw [if_pos c19] at H
                      have c19b0 : (t112 == 0) = true := beq_iff_eq.mpr c19
                      have c19b1 : (t112 != 0) = false := bne_eq_false_iff_eq.mpr c19
                      clear c19
                      by_cases c20 : t115 = 0
                      · rw [if_pos c20] at H
                        have c20b0 : (t115 == 0) = true := beq_iff_eq.mpr c20
                        have c20b1 : (t115 != 0) = false := bne_eq_false_iff_eq.mpr c20
                        clear c20
                        have H' := Aside0.mk H
                        clear H
                        go_wp2
                        go_meet
                        case rel => exact ⟨_, (decide (t110 > 4294967295)), (by first | rfl | (simp; done) | (simp [*]; done)), H', ⟨by have := HJ3.out; have := HJ10.out; first | omega | exact Nat.le_refl _⟩, by repeat (first | exact Drawn0.refl _ | apply Drawn0.step)⟩
                      · rw [if_neg c20] at H
                        have c20b0 : (t115 == 0) = false := beq_eq_false_iff_ne.mpr c20
                        have c20b1 : (t115 != 0) = true := bne_iff_ne.mpr c20
                        have H' := Aside0.mk H
                        clear H
                        go_wp2
                        go_meet
                        case rel => exact ⟨_, (true), (by first | rfl | (simp; done) | (simp [*]; done)), H', ⟨by have := HJ3.out; have := HJ10.out; first | omega | exact Nat.le_refl _⟩, by repeat (first | exact Drawn0.refl _ | apply Drawn0.step)⟩
                    · rw [if_neg c19] at H
                      have c19b0 : (t112 == 0) = false := beq_eq_false_iff_ne.mpr c19
                      have c19b1 : (t112 != 0) = true := bne_iff_ne.mpr c19
                      have H' := Aside0.mk H
                      clear H
                      go_wp2
                      go_meet
                      case rel => exact ⟨_, (true), (by first | rfl | (simp; done) | (simp [*]; done)), H', ⟨by have := HJ3.out; have := HJ10.out; first | omega | exact Nat.le_refl _⟩, by repeat (first | exact Drawn0.refl _ | apply Drawn0.step)⟩
                  · rw [if_neg c18] at H
                    have c18b0 : (t116 == 0) = false := beq_eq_false_iff_ne.mpr c18
                    have c18b1 : (t116 != 0) = true := bne_iff_ne.mpr c18
                    have H' := Aside0.mk H
                    clear H
                    go_wp2
                    go_meet
                    case rel => exact ⟨_, (true), (by first | rfl | (simp; done) | (simp [*]; done)), H', ⟨by have := HJ3.out; have := HJ10.out; first | omega | exact Nat.le_refl _⟩, by repeat (first | exact Drawn0.refl _ | apply Drawn0.step)⟩
                · rw [if_neg c17] at H
                  have c17b0 : (t113 == 0) = false := beq_eq_false_iff_ne.mpr c17
                  have c17b1 : (t113 != 0) = true := bne_iff_ne.mpr c17
                  (first | rw [c17b0] | (simp only [i64_w, i32_w]; rw [c17b0]) | skip)
                  have H' := Aside0.mk H
                  clear H
                  go_wp2
                  go_meet
                  case rel => exact ⟨_, (true), (by first | rfl | (simp; done) | (simp [*]; done)), H', ⟨by have := HJ3.out; have := HJ10.out; first | omega | exact Nat.le_refl _⟩, by repeat (first | exact Drawn0.refl _ | apply Drawn0.step)⟩
              case rest =>
                clear HC16
                try clear c1
                try clear c2
                try clear p2
                try clear c3
                try clear c4
                try clear c6
                try clear c6b0
                try clear c6b1
                try clear c7
                try clear c8
                try clear c8b0
                try clear c8b1
                try clear c10
                try clear c12
                try clear c12b0
                try clear c12b1
                try clear c13
                try clear c17
                try clear c17b0
                try clear c17b1
                try clear c18
                try clear c18b0
                try clear c18b1
                try clear c19
                try clear c19b0
                try clear c19b1
                try clear c20
                try clear c20b0
                try clear c20b1
                try clear p2
                obtain ⟨kq, x72_15, rfl, HA, HJ15, ⟨mc15, rfl⟩⟩ := hcut
                cases kq with
                | zero => exact absurd HA.out (by simp [culletlaw01_RingGreatest.j2])
                | succ kj15 =>
                  have H := HA.out
                  clear HA
                  simp only [culletlaw01_RingGreatest.j2] at H
                  by_cases c21 : x72_15 = true
                  · subst c21
                    have H1 : (some false) = some r := by rw [if_pos rfl] at H; exact H
                    clear H
                    have H := H1
                    clear H1
                    obtain rfl := Option.some.inj H
                    go_wp2
                    go_ret
                    exact ⟨by first | rfl | (simp; done) | (simp [*]; done), by repeat (first | exact Drawn0.refl _ | apply Drawn0.step)⟩
                  · replace c21 := Bool.eq_false_iff.mpr c21
                    subst c21
                    have H1 : ((ring_Mul.f kj15 a0 a2).bind fun t117 => ((ring_Mul.f kj15 a1 a2).bind fun t118 => ((ring_Gcd.f kj15 t117 t118).bind fun t119 => ((ring_Mul.f kj15 ((t110) % 4294967296) a2).bind fun t120 => (some (t119 == t120)))))) = some r := by rw [if_neg (show ¬ (false = true) by decide)] at H; exact H
                    clear H
                    have H := H1
                    clear H1
                    replace H := Option.bind_eq_some_iff.mp H
                    obtain ⟨t117, A220, H⟩ := H
                    replace H : ((ring_Mul.f kj15 a1 a2).bind fun t118 => ((ring_Gcd.f kj15 t117 t118).bind fun t119 => ((ring_Mul.f kj15 ((t110) % 4294967296) a2).bind fun t120 => (some (t119 == t120))))) = some r := H
                    have A22 := Aside0.mk A220
                    clear A220
                    replace H := Option.bind_eq_some_iff.mp H
                    obtain ⟨t118, A230, H⟩ := H
                    replace H : ((ring_Gcd.f kj15 t117 t118).bind fun t119 => ((ring_Mul.f kj15 ((t110) % 4294967296) a2).bind fun t120 => (some (t119 == t120)))) = some r := H
                    have A23 := Aside0.mk A230
                    clear A230
                    replace H := Option.bind_eq_some_iff.mp H
                    obtain ⟨t119, A240, H⟩ := H
                    replace H : ((ring_Mul.f kj15 ((t110) % 4294967296) a2).bind fun t120 => (some (t119 == t120))) = some r := H
                    have A24 := Aside0.mk A240
                    clear A240
                    replace H := Option.bind_eq_some_iff.mp H
                    obtain ⟨t120, A250, H⟩ := H
                    replace H : (some (t119 == t120)) = some r := H
                    have A25 := Aside0.mk A250
                    clear A250
                    obtain rfl := Option.some.inj H
                    go_wp2_with (first | ((with_reducible refine gate_callee (f := 14) rfl ?_); refine goesL_ (some 75) rfl rfl Try.func14 (by kernel_rfl) rfl #[.int .u32 a0, .int .u32 a2] rfl (by (try simp only [List.map_toArray, List.map_cons, List.map_nil]); first | done | rfl | (simp only [List.length_drop, List.length_take]; rfl)) ?_; (with_reducible refine (ring_Mul.calls kj15 a0 a2 t117 _ A22.out).mono ?_); rintro e w' ⟨rfl, ⟨nd, rfl⟩⟩; refine ⟨_, rfl, ?_⟩) | ((with_reducible refine gate_callee (f := 14) rfl ?_); refine goesL_ (some 78) rfl rfl Try.func14 (by kernel_rfl) rfl #[.int .u32 a1, .int .u32 a2] rfl (by (try simp only [List.map_toArray, List.map_cons, List.map_nil]); first | done | rfl | (simp only [List.length_drop, List.length_take]; rfl)) ?_; (with_reducible refine (ring_Mul.calls kj15 a1 a2 t118 _ A23.out).mono ?_); rintro e w' ⟨rfl, ⟨nd, rfl⟩⟩; refine ⟨_, rfl, ?_⟩) | ((with_reducible refine gate_callee (f := 12) rfl ?_); refine goesL_ (some 79) rfl rfl Try.func12 (by kernel_rfl) rfl #[.int .u64 t117, .int .u64 t118] rfl (by (try simp only [List.map_toArray, List.map_cons, List.map_nil]); first | done | rfl | (simp only [List.length_drop, List.length_take]; rfl)) ?_; (with_reducible refine (ring_Gcd.calls kj15 t117 t118 t119 _ A24.out).mono ?_); rintro e w' ⟨rfl, ⟨nd, rfl⟩⟩; refine ⟨_, rfl, ?_⟩) | ((with_reducible refine gate_callee (f := 14) rfl ?_); refine goesL_ (some 83) rfl rfl Try.func14 (by kernel_rfl) rfl #[.int .u32 ((t110) % 4294967296), .int .u32 a2] rfl (by (try simp only [List.map_toArray, List.map_cons, List.map_nil]); first | done | rfl | (simp only [List.length_drop, List.length_take]; rfl)) ?_; (with_reducible refine (ring_Mul.calls kj15 ((t110) % 4294967296) a2 t120 _ A25.out).mono ?_); rintro e w' ⟨rfl, ⟨nd, rfl⟩⟩; refine ⟨_, rfl, ?_⟩))
                    go_ret
                    exact ⟨by first | rfl | (simp; done) | (simp [*]; done), by repeat (first | exact Drawn0.refl _ | apply Drawn0.step)⟩

/-- THE ONE PURE STATEMENT of culletlaw01_RingGreatest: yours. -/
def culletlaw01_RingGreatest.Pure : Prop := ∀ (a0 : Int) (a1 : Int) (a2 : Int), (Lit.int .u32 a0).wf = true → (Lit.int .u32 a1).wf = true → (Lit.int .u32 a2).wf = true → ∃ k, culletlaw01_RingGreatest.f k a0 a1 a2 = some true
theorem culletlaw01_RingGreatest.walk (P : culletlaw01_RingGreatest.Pure) (a0 : Int) (a1 : Int) (a2 : Int) (w : World) (w0 : (Lit.int .u32 a0).wf = true) (w1 : (Lit.int .u32 a1).wf = true) (w2 : (Lit.int .u32 a2).wf = true) :
    Calls Try.prog 4 #[.int .u32 a0, .int .u32 a1, .int .u32 a2] w fun e w' => e = .returned (.bool true) ∧ Below w.heap.size w w' := by
  obtain ⟨k, h⟩ := P a0 a1 a2 w0 w1 w2
  refine (culletlaw01_RingGreatest.calls k a0 a1 a2 true w h).mono ?_
  rintro e w' ⟨rfl, hd⟩
  exact ⟨rfl, hd.below⟩

end Go.Proofs.Ytilacemjflomfaa.Q
