-- Printed for this claim by mp.py, a program of its prover, through the kit's print. Lean checks it.
import Derived.Test.YtilacemjflomfaaQx0
import Derived.Test.YtilacemjflomfaaQx3
import Derived.Test.YtilacemjflomfaaQx6
namespace Go.Proofs.Ytilacemjflomfaa.Q
open Go.RowKit Go.Proofs.YtilacemjflomfaaW.PrintWords Go.Proofs.YtilacemjflomfaaW.PrintLast Go.Proofs.YtilacemjflomfaaW.PrintMore
attribute [local go_sem] max2_int min2_int max_two min_two max_three min_three max_four min_four   -- for this text's walks alone
set_option linter.unusedVariables false
set_option linter.unusedSimpArgs false

/-! ### culletlaw01_RingCounts: function 7 -/
mutual
def culletlaw01_RingCounts.j0 : Nat → Int → Option (Bool)
  | 0, _ => none
  | k + 1, x3 => culletlaw01_RingCounts.l0 k (wrap64 (x3 + 1)) 0 2
def culletlaw01_RingCounts.l0 : Nat → Int → Int → Int → Option (Bool)
  | 0, _, _, _ => none
  | k + 1, x3, x4, x5 => (culletlaw01_high.f k x5).bind fun t174 => (if t174 ≤ x3 then ((culletlaw01_high.f k x5).bind fun t175 => (if t175 = 0 then (none) else (if (Int.tmod x3 t175) = 0 then ((ring_Irreducible.f k x5).bind fun bt176 => (if bt176.2 = 0 then (if bt176.1 = true then ((culletlaw01_high.f k x5).bind fun t178 => (culletlaw01_RingCounts.l0 k x3 (wrap64 (x4 + t178)) (IntKind.u64.wrap (x5 + 1)))) else (culletlaw01_RingCounts.l0 k x3 x4 (IntKind.u64.wrap (x5 + 1)))) else (some false))) else (culletlaw01_RingCounts.l0 k x3 x4 (IntKind.u64.wrap (x5 + 1)))))) else (if 0 ≤ (IntKind.u64.wrap (x3)) then (some (x4 == (shl .i64 1 (IntKind.u64.wrap (x3))))) else (none)))
end
def culletlaw01_RingCounts.f (k : Nat) (a0 : Int) : Option (Bool) := if (Int.tmod a0 10) < 0 then (culletlaw01_RingCounts.j0 k (wrap64 ((Int.tmod a0 10) + 10))) else (culletlaw01_RingCounts.j0 k (Int.tmod a0 10))
theorem culletlaw01_RingCounts.mono_l : ∀ k, (∀ y0, LeO (culletlaw01_RingCounts.j0 k y0) (culletlaw01_RingCounts.j0 (k + 1) y0)) ∧ (∀ y0 y1 y2, LeO (culletlaw01_RingCounts.l0 k y0 y1 y2) (culletlaw01_RingCounts.l0 (k + 1) y0 y1 y2))
  | 0 => ⟨fun _ r h => by simp [culletlaw01_RingCounts.j0] at h, fun _ _ _ r h => by simp [culletlaw01_RingCounts.l0] at h⟩
  | k + 1 => by
    obtain ⟨ih0, ih1⟩ := culletlaw01_RingCounts.mono_l k
    refine ⟨?_, ?_⟩
    · intro y0
      unfold culletlaw01_RingCounts.j0
      repeat' first
      | (with_reducible exact ih0 _)
      | (with_reducible exact ih1 _ _ _)
      | (with_reducible exact culletlaw01_high.mono _ _)
      | (with_reducible exact ring_Irreducible.mono _ _)
      | (with_reducible exact LeO.refl _)
      | (with_reducible exact LeO.none _)
      | (with_reducible refine LeO.ite ?_ ?_)
      | (with_reducible refine LeO.bind ?_ (fun _ => ?_))
      | exact ih0 _
      | exact ih1 _ _ _
      | exact culletlaw01_high.mono _ _
      | exact ring_Irreducible.mono _ _
      | exact LeO.none _
      | refine LeO.ite ?_ ?_
      | refine LeO.bind ?_ (fun _ => ?_)
    · intro y0 y1 y2
      unfold culletlaw01_RingCounts.l0
      repeat' first
      | (with_reducible exact ih0 _)
      | (with_reducible exact ih1 _ _ _)
      | (with_reducible exact culletlaw01_high.mono _ _)
      | (with_reducible exact ring_Irreducible.mono _ _)
      | (with_reducible exact LeO.refl _)
      | (with_reducible exact LeO.none _)
      | (with_reducible refine LeO.ite ?_ ?_)
      | (with_reducible refine LeO.bind ?_ (fun _ => ?_))
      | exact ih0 _
      | exact ih1 _ _ _
      | exact culletlaw01_high.mono _ _
      | exact ring_Irreducible.mono _ _
      | exact LeO.none _
      | refine LeO.ite ?_ ?_
      | refine LeO.bind ?_ (fun _ => ?_)
theorem culletlaw01_RingCounts.mono : ∀ a0 k, LeO (culletlaw01_RingCounts.f k a0) (culletlaw01_RingCounts.f (k + 1) a0) := by
  intro a0 k
  obtain ⟨ih0, ih1⟩ := culletlaw01_RingCounts.mono_l k
  unfold culletlaw01_RingCounts.f
  repeat' first
      | (with_reducible exact ih0 _)
      | (with_reducible exact ih1 _ _ _)
      | (with_reducible exact culletlaw01_high.mono _ _)
      | (with_reducible exact ring_Irreducible.mono _ _)
      | (with_reducible exact LeO.refl _)
      | (with_reducible exact LeO.none _)
      | (with_reducible refine LeO.ite ?_ ?_)
      | (with_reducible refine LeO.bind ?_ (fun _ => ?_))
      | exact ih0 _
      | exact ih1 _ _ _
      | exact culletlaw01_high.mono _ _
      | exact ring_Irreducible.mono _ _
      | exact LeO.none _
      | refine LeO.ite ?_ ?_
      | refine LeO.bind ?_ (fun _ => ?_)
set_option maxHeartbeats 8000000 in
set_option maxRecDepth 100000 in
theorem culletlaw01_RingCounts.calls (k : Nat) (a0 : Int) (r : Bool) (w : World) (h : culletlaw01_RingCounts.f k a0 = some r) :
    Calls Try.prog 7 #[.int .i64 a0] w fun e w' => e = .returned (.bool r) ∧ Drawn0 w w' := by
  have H : (if (Int.tmod a0 10) < 0 then (culletlaw01_RingCounts.j0 k (wrap64 ((Int.tmod a0 10) + 10))) else (culletlaw01_RingCounts.j0 k (Int.tmod a0 10))) = some r := h
  clear h
  have HC2 := Aside0.mk H
  clear H
  go_enter Try.func7, Try.ntmps7
  go_upto_if 11 with (fail)
  go_cut [3] (fun v3 wc => ∃ (kq : Nat) (x3_1 : Int), v3 = .int .i64 x3_1 ∧ Aside0 (culletlaw01_RingCounts.j0 kq x3_1 = some r) ∧ Aside0 (kq ≤ k) ∧ Drawn0 w wc)
  case first =>
    have H := HC2.out
    clear HC2
    by_cases c3 : (Int.tmod a0 10) < 0
    · rw [if_pos c3] at H
      have c3b0 : decide ((Int.tmod a0 10) < 0) = true := decide_eq_true c3
      clear c3
      (first | rw [c3b0] | (simp only [i64_w, i32_w]; rw [c3b0]) | skip)
      have H' := Aside0.mk H
      clear H
      go_wp2
      go_meet
      case rel => exact ⟨_, (wrap64 ((Int.tmod a0 10) + 10)), (by first | rfl | (simp; done) | (simp [*]; done)), H', ⟨by first | omega | exact Nat.le_refl _⟩, by repeat (first | exact Drawn0.refl _ | apply Drawn0.step)⟩
    · rw [if_neg c3] at H
      have c3b0 : decide ((Int.tmod a0 10) < 0) = false := decide_eq_false c3
      clear c3
      (first | rw [c3b0] | (simp only [i64_w, i32_w]; rw [c3b0]) | skip)
      have H' := Aside0.mk H
      clear H
      go_wp2
      go_meet
      case rel => exact ⟨_, (Int.tmod a0 10), (by first | rfl | (simp; done) | (simp [*]; done)), H', ⟨by first | omega | exact Nat.le_refl _⟩, by repeat (first | exact Drawn0.refl _ | apply Drawn0.step)⟩
  case rest =>
    clear HC2
    try clear p2
    try clear c3
    try clear c3b0
    obtain ⟨kq, x3_1, rfl, HA, HJ1, ⟨mc1, rfl⟩⟩ := hcut
    cases kq with
    | zero => exact absurd HA.out (by simp [culletlaw01_RingCounts.j0])
    | succ kj1 =>
      have H := HA.out
      clear HA
      simp only [culletlaw01_RingCounts.j0] at H
      have H' := Aside0.mk H
      clear H
      go_wp2
      go_loopg [4, 5] kj1 (fun kq v4 v5 w' => ∃ (x4_2 : Int) (x5_2 : Int), v4 = .int .i64 x4_2 ∧ v5 = .int .u64 x5_2 ∧ Aside0 (culletlaw01_RingCounts.l0 kq (wrap64 (x3_1 + 1)) x4_2 x5_2 = some r) ∧ Aside0 (kq ≤ kj1) ∧ Drawn0 w w')
      case atStart => exact ⟨(0), (2), (by first | rfl | (simp; done) | (simp [*]; done)), (by first | rfl | (simp; done) | (simp [*]; done)), H', ⟨Nat.le_refl _⟩, by repeat (first | exact Drawn0.refl _ | apply Drawn0.step)⟩
      case round =>
        clear H'
        try clear c1
        try clear p2
        try clear c3
        try clear c3b0
        try clear p2
        obtain ⟨x4_2, x5_2, rfl, rfl, HA, HK2, ⟨m2, rfl⟩⟩ := hrel
        cases gk with
        | zero => exact absurd HA.out (by simp [culletlaw01_RingCounts.l0])
        | succ k2 =>
          have H := HA.out
          clear HA
          simp only [culletlaw01_RingCounts.l0] at H
          replace H := Option.bind_eq_some_iff.mp H
          obtain ⟨t174, A40, H⟩ := H
          replace H : (if t174 ≤ (wrap64 (x3_1 + 1)) then ((culletlaw01_high.f k2 x5_2).bind fun t175 => (if t175 = 0 then (none) else (if (Int.tmod (wrap64 (x3_1 + 1)) t175) = 0 then ((ring_Irreducible.f k2 x5_2).bind fun bt176 => (if bt176.2 = 0 then (if bt176.1 = true then ((culletlaw01_high.f k2 x5_2).bind fun t178 => (culletlaw01_RingCounts.l0 k2 (wrap64 (x3_1 + 1)) (wrap64 (x4_2 + t178)) (IntKind.u64.wrap (x5_2 + 1)))) else (culletlaw01_RingCounts.l0 k2 (wrap64 (x3_1 + 1)) x4_2 (IntKind.u64.wrap (x5_2 + 1)))) else (some false))) else (culletlaw01_RingCounts.l0 k2 (wrap64 (x3_1 + 1)) x4_2 (IntKind.u64.wrap (x5_2 + 1)))))) else (if 0 ≤ (IntKind.u64.wrap ((wrap64 (x3_1 + 1)))) then (some (x4_2 == (shl .i64 1 (IntKind.u64.wrap ((wrap64 (x3_1 + 1))))))) else (none))) = some r := H
          have A4 := Aside0.mk A40
          clear A40
          by_cases c5 : t174 ≤ (wrap64 (x3_1 + 1))
          · rw [if_pos c5] at H
            have c5b0 : decide (t174 ≤ (wrap64 (x3_1 + 1))) = true := decide_eq_true c5
            clear c5
            replace H := Option.bind_eq_some_iff.mp H
            obtain ⟨t175, A60, H⟩ := H
            replace H : (if t175 = 0 then (none) else (if (Int.tmod (wrap64 (x3_1 + 1)) t175) = 0 then ((ring_Irreducible.f k2 x5_2).bind fun bt176 => (if bt176.2 = 0 then (if bt176.1 = true then ((culletlaw01_high.f k2 x5_2).bind fun t178 => (culletlaw01_RingCounts.l0 k2 (wrap64 (x3_1 + 1)) (wrap64 (x4_2 + t178)) (IntKind.u64.wrap (x5_2 + 1)))) else (culletlaw01_RingCounts.l0 k2 (wrap64 (x3_1 + 1)) x4_2 (IntKind.u64.wrap (x5_2 + 1)))) else (some false))) else (culletlaw01_RingCounts.l0 k2 (wrap64 (x3_1 + 1)) x4_2 (IntKind.u64.wrap (x5_2 + 1))))) = some r := H
            have A6 := Aside0.mk A60
            clear A60
            by_cases c7 : t175 = 0
            · rw [if_pos c7] at H
              exact absurd H (by simp)
            · rw [if_neg c7] at H
              have c7b0 : (t175 == 0) = false := beq_eq_false_iff_ne.mpr c7
              have c7b1 : (t175 != 0) = true := bne_iff_ne.mpr c7
              by_cases c8 : (Int.tmod (wrap64 (x3_1 + 1)) t175) = 0
              · rw [if_pos c8] at H
                have c8b0 : ((Int.tmod (wrap64 (x3_1 + 1)) t175) == 0) = true := beq_iff_eq.mpr c8
                have c8b1 : ((Int.tmod (wrap64 (x3_1 + 1)) t175) != 0) = false := bne_eq_false_iff_eq.mpr c8
                clear c8
                replace H := Option.bind_eq_some_iff.mp H
                obtain ⟨⟨t176, t177⟩, A90, H⟩ := H
                replace H : (if t177 = 0 then (if t176 = true then ((culletlaw01_high.f k2 x5_2).bind fun t178 => (culletlaw01_RingCounts.l0 k2 (wrap64 (x3_1 + 1)) (wrap64 (x4_2 + t178)) (IntKind.u64.wrap (x5_2 + 1)))) else (culletlaw01_RingCounts.l0 k2 (wrap64 (x3_1 + 1)) x4_2 (IntKind.u64.wrap (x5_2 + 1)))) else (some false)) = some r := H
                have A9 := Aside0.mk A90
                clear A90
                by_cases c10 : t177 = 0
                · rw [if_pos c10] at H
                  have c10b0 : (t177 == 0) = true := beq_iff_eq.mpr c10
                  have c10b1 : (t177 != 0) = false := bne_eq_false_iff_eq.mpr c10
                  clear c10
                  by_cases c11 : t176 = true
                  · subst c11
                    have H1 : ((culletlaw01_high.f k2 x5_2).bind fun t178 => (culletlaw01_RingCounts.l0 k2 (wrap64 (x3_1 + 1)) (wrap64 (x4_2 + t178)) (IntKind.u64.wrap (x5_2 + 1)))) = some r := by rw [if_pos rfl] at H; exact H
                    clear H
                    have H := H1
                    clear H1
                    replace H := Option.bind_eq_some_iff.mp H
                    obtain ⟨t178, A120, H⟩ := H
                    replace H : (culletlaw01_RingCounts.l0 k2 (wrap64 (x3_1 + 1)) (wrap64 (x4_2 + t178)) (IntKind.u64.wrap (x5_2 + 1))) = some r := H
                    have A12 := Aside0.mk A120
                    clear A120
                    have H' := Aside0.mk H
                    clear H
                    go_wp2_with (first | ((with_reducible refine gate_callee (f := 16) rfl ?_); refine goesL_ (some 17) rfl rfl Try.func16 (by kernel_rfl) rfl #[.int .u64 x5_2] rfl (by (try simp only [List.map_toArray, List.map_cons, List.map_nil]); first | done | rfl | (simp only [List.length_drop, List.length_take]; rfl)) ?_; (with_reducible refine (culletlaw01_high.calls k2 x5_2 t174 _ A4.out).mono ?_); rintro e w' ⟨rfl, ⟨nd, rfl⟩⟩; refine ⟨_, rfl, ?_⟩) | ((with_reducible refine gate_callee (f := 16) rfl ?_); refine goesL_ (some 24) rfl rfl Try.func16 (by kernel_rfl) rfl #[.int .u64 x5_2] rfl (by (try simp only [List.map_toArray, List.map_cons, List.map_nil]); first | done | rfl | (simp only [List.length_drop, List.length_take]; rfl)) ?_; (with_reducible refine (culletlaw01_high.calls k2 x5_2 t175 _ A6.out).mono ?_); rintro e w' ⟨rfl, ⟨nd, rfl⟩⟩; refine ⟨_, rfl, ?_⟩) | ((with_reducible refine gate_callee (f := 19) rfl ?_); refine goesL_ (some 29) rfl rfl Try.func19 (by kernel_rfl) rfl #[.int .u64 x5_2] rfl (by (try simp only [List.map_toArray, List.map_cons, List.map_nil]); first | done | rfl | (simp only [List.length_drop, List.length_take]; rfl)) ?_; (with_reducible refine (ring_Irreducible.calls k2 x5_2 true t177 _ A9.out).mono ?_); rintro e w' ⟨rfl, ⟨nd, rfl⟩⟩; refine ⟨_, rfl, ?_⟩) | ((with_reducible refine gate_callee (f := 16) rfl ?_); refine goesL_ (some 37) rfl rfl Try.func16 (by kernel_rfl) rfl #[.int .u64 x5_2] rfl (by (try simp only [List.map_toArray, List.map_cons, List.map_nil]); first | done | rfl | (simp only [List.length_drop, List.length_take]; rfl)) ?_; (with_reducible refine (culletlaw01_high.calls k2 x5_2 t178 _ A12.out).mono ?_); rintro e w' ⟨rfl, ⟨nd, rfl⟩⟩; refine ⟨_, rfl, ?_⟩))
                    go_roundg k2
                    case measure => have := HJ1.out; have := HK2.out; omega
                    case rel => exact ⟨(wrap64 (x4_2 + t178)), (IntKind.u64.wrap (x5_2 + 1)), (by first | rfl | (simp; done) | (simp [*]; done)), (by first | rfl | (simp; done) | (simp [*]; done)), H', ⟨by have := HJ1.out; have := HK2.out; omega⟩, by repeat (first | exact Drawn0.refl _ | apply Drawn0.step)⟩
                  · replace c11 := Bool.eq_false_iff.mpr c11
                    subst c11
                    have H1 : (culletlaw01_RingCounts.l0 k2 (wrap64 (x3_1 + 1)) x4_2 (IntKind.u64.wrap (x5_2 + 1))) = some r := by rw [if_neg (show ¬ (false = true) by decide)] at H; exact H
                    clear H
                    have H := H1
                    clear H1
                    have H' := Aside0.mk H
                    clear H
                    go_wp2_with (first | ((with_reducible refine gate_callee (f := 16) rfl ?_); refine goesL_ (some 17) rfl rfl Try.func16 (by kernel_rfl) rfl #[.int .u64 x5_2] rfl (by (try simp only [List.map_toArray, List.map_cons, List.map_nil]); first | done | rfl | (simp only [List.length_drop, List.length_take]; rfl)) ?_; (with_reducible refine (culletlaw01_high.calls k2 x5_2 t174 _ A4.out).mono ?_); rintro e w' ⟨rfl, ⟨nd, rfl⟩⟩; refine ⟨_, rfl, ?_⟩) | ((with_reducible refine gate_callee (f := 16) rfl ?_); refine goesL_ (some 24) rfl rfl Try.func16 (by kernel_rfl) rfl #[.int .u64 x5_2] rfl (by (try simp only [List.map_toArray, List.map_cons, List.map_nil]); first | done | rfl | (simp only [List.length_drop, List.length_take]; rfl)) ?_; (with_reducible refine (culletlaw01_high.calls k2 x5_2 t175 _ A6.out).mono ?_); rintro e w' ⟨rfl, ⟨nd, rfl⟩⟩; refine ⟨_, rfl, ?_⟩) | ((with_reducible refine gate_callee (f := 19) rfl ?_); refine goesL_ (some 29) rfl rfl Try.func19 (by kernel_rfl) rfl #[.int .u64 x5_2] rfl (by (try simp only [List.map_toArray, List.map_cons, List.map_nil]); first | done | rfl | (simp only [List.length_drop, List.length_take]; rfl)) ?_; (with_reducible refine (ring_Irreducible.calls k2 x5_2 false t177 _ A9.out).mono ?_); rintro e w' ⟨rfl, ⟨nd, rfl⟩⟩; refine ⟨_, rfl, ?_⟩))
                    go_roundg k2
                    case measure => have := HJ1.out; have := HK2.out; omega
                    case rel => exact ⟨(x4_2), (IntKind.u64.wrap (x5_2 + 1)), (by first | rfl | (simp; done) | (simp [*]; done)), (by first | rfl | (simp; done) | (simp [*]; done)), H', ⟨by have := HJ1.out; have := HK2.out; omega⟩, by repeat (first | exact Drawn0.refl _ | apply Drawn0.step)⟩
                · rw [if_neg c10] at H
                  have c10b0 : (t177 == 0) = false := beq_eq_false_iff_ne.mpr c10
                  have c10b1 : (t177 != 0) = true := bne_iff_ne.mpr c10
                  obtain rfl := Option.some.inj H
                  go_wp2_with (first | ((with_reducible refine gate_callee (f := 16) rfl ?_); refine goesL_ (some 17) rfl rfl Try.func16 (by kernel_rfl) rfl #[.int .u64 x5_2] rfl (by (try simp only [List.map_toArray, List.map_cons, List.map_nil]); first | done | rfl | (simp only [List.length_drop, List.length_take]; rfl)) ?_; (with_reducible refine (culletlaw01_high.calls k2 x5_2 t174 _ A4.out).mono ?_); rintro e w' ⟨rfl, ⟨nd, rfl⟩⟩; refine ⟨_, rfl, ?_⟩) | ((with_reducible refine gate_callee (f := 16) rfl ?_); refine goesL_ (some 24) rfl rfl Try.func16 (by kernel_rfl) rfl #[.int .u64 x5_2] rfl (by (try simp only [List.map_toArray, List.map_cons, List.map_nil]); first | done | rfl | (simp only [List.length_drop, List.length_take]; rfl)) ?_; (with_reducible refine (culletlaw01_high.calls k2 x5_2 t175 _ A6.out).mono ?_); rintro e w' ⟨rfl, ⟨nd, rfl⟩⟩; refine ⟨_, rfl, ?_⟩) | ((with_reducible refine gate_callee (f := 19) rfl ?_); refine goesL_ (some 29) rfl rfl Try.func19 (by kernel_rfl) rfl #[.int .u64 x5_2] rfl (by (try simp only [List.map_toArray, List.map_cons, List.map_nil]); first | done | rfl | (simp only [List.length_drop, List.length_take]; rfl)) ?_; (with_reducible refine (ring_Irreducible.calls k2 x5_2 t176 t177 _ A9.out).mono ?_); rintro e w' ⟨rfl, ⟨nd, rfl⟩⟩; refine ⟨_, rfl, ?_⟩))
                  go_ret
                  exact ⟨by first | rfl | (simp; done) | (simp [*]; done), by repeat (first | exact Drawn0.refl _ | apply Drawn0.step)⟩
              · rw [if_neg c8] at H
                have c8b0 : ((Int.tmod (wrap64 (x3_1 + 1)) t175) == 0) = false := beq_eq_false_iff_ne.mpr c8
                have c8b1 : ((Int.tmod (wrap64 (x3_1 + 1)) t175) != 0) = true := bne_iff_ne.mpr c8
                have H' := Aside0.mk H
                clear H
                go_wp2_with (first | ((with_reducible refine gate_callee (f := 16) rfl ?_); refine goesL_ (some 17) rfl rfl Try.func16 (by kernel_rfl) rfl #[.int .u64 x5_2] rfl (by (try simp only [List.map_toArray, List.map_cons, List.map_nil]); first | done | rfl | (simp only [List.length_drop, List.length_take]; rfl)) ?_; (with_reducible refine (culletlaw01_high.calls k2 x5_2 t174 _ A4.out).mono ?_); rintro e w' ⟨rfl, ⟨nd, rfl⟩⟩; refine ⟨_, rfl, ?_⟩) | ((with_reducible refine gate_callee (f := 16) rfl ?_); refine goesL_ (some 24) rfl rfl Try.func16 (by kernel_rfl) rfl #[.int .u64 x5_2] rfl (by (try simp only [List.map_toArray, List.map_cons, List.map_nil]); first | done | rfl | (simp only [List.length_drop, List.length_take]; rfl)) ?_; (with_reducible refine (culletlaw01_high.calls k2 x5_2 t175 _ A6.out).mono ?_); rintro e w' ⟨rfl, ⟨nd, rfl⟩⟩; refine ⟨_, rfl, ?_⟩))
                go_roundg k2
                case measure => have := HJ1.out; have := HK2.out; omega
                case rel => exact ⟨(x4_2), (IntKind.u64.wrap (x5_2 + 1)), (by first | rfl | (simp; done) | (simp [*]; done)), (by first | rfl | (simp; done) | (simp [*]; done)), H', ⟨by have := HJ1.out; have := HK2.out; omega⟩, by repeat (first | exact Drawn0.refl _ | apply Drawn0.step)⟩
          · rw [if_neg c5] at H
            have c5b0 : decide (t174 ≤ (wrap64 (x3_1 + 1))) = false := decide_eq_false c5
            clear c5
            obtain ⟨ji13, hji13⟩ : ∃ j_ : Int, (IntKind.u64.wrap ((wrap64 (x3_1 + 1)))) = j_ := ⟨_, rfl⟩
            replace H : (if 0 ≤ (ji13) then (some (x4_2 == (shl .i64 1 (ji13)))) else (none)) = some r := by first | (rw [hji13] at H; exact H) | (simp only [hji13] at H ⊢; exact H)
            (try rw [hji13] at A4)
            by_cases c14 : 0 ≤ (ji13)
            · rw [if_pos c14] at H
              have c14b0 := eq_true c14
              have c14b1 : decide (0 ≤ (ji13)) = true := decide_eq_true c14
              clear c14
              obtain ⟨ji15, hji15⟩ : ∃ j_ : Int, (shl .i64 1 (ji13)) = j_ := ⟨_, rfl⟩
              replace H : (some (x4_2 == (ji15))) = some r := by first | (rw [hji15] at H; exact H) | (simp only [hji15] at H ⊢; exact H)
              (try rw [hji15] at A4)
              have hji15_ : (IntKind.i64.wrap (1 * 2 ^ min (ji13).toNat 64)) = ji15 := hji15
              have hji15z : (ji13) ≤ 64 → (IntKind.i64.wrap (1 * 2 ^ (ji13).toNat)) = ji15 := shl_small hji15
              have hji15u : (IntKind.i64.wrap (2 ^ min (ji13).toNat 64)) = ji15 := by have h_ := hji15_; rw [Int.one_mul] at h_; exact h_
              have hji15v : (ji13) ≤ 64 → (IntKind.i64.wrap (2 ^ (ji13).toNat)) = ji15 := fun hle_ => by have h_ := hji15z hle_; rw [Int.one_mul] at h_; exact h_
              have hji15y : (wrap64 (1 * 2 ^ min (ji13).toNat 64)) = ji15 := (i64_w _).symm.trans hji15_
              have hji15x : (ji13) ≤ 64 → (wrap64 (1 * 2 ^ (ji13).toNat)) = ji15 := fun h_ => (i64_w _).symm.trans (hji15z h_)
              obtain rfl := Option.some.inj H
              go_wp2_with (first | ((with_reducible refine gate_callee (f := 16) rfl ?_); refine goesL_ (some 17) rfl rfl Try.func16 (by kernel_rfl) rfl #[.int .u64 x5_2] rfl (by (try simp only [List.map_toArray, List.map_cons, List.map_nil]); first | done | rfl | (simp only [List.length_drop, List.length_take]; rfl)) ?_; (with_reducible refine (culletlaw01_high.calls k2 x5_2 t174 _ A4.out).mono ?_); rintro e w' ⟨rfl, ⟨nd, rfl⟩⟩; refine ⟨_, rfl, ?_⟩))
              go_ret
              exact ⟨by first | rfl | (simp; done) | (simp only [← hji13, ← hji15] <;> (first | rfl | simp)) | (simp [*]; done), by repeat (first | exact Drawn0.refl _ | apply Drawn0.step)⟩
            · rw [if_neg c14] at H
              exact absurd H (by simp)

/-- THE ONE PURE STATEMENT of culletlaw01_RingCounts: yours. -/
def culletlaw01_RingCounts.Pure : Prop := ∀ (a0 : Int), (Lit.int .i64 a0).wf = true → ∃ k, culletlaw01_RingCounts.f k a0 = some true
theorem culletlaw01_RingCounts.walk (P : culletlaw01_RingCounts.Pure) (a0 : Int) (w : World) (w0 : (Lit.int .i64 a0).wf = true) :
    Calls Try.prog 7 #[.int .i64 a0] w fun e w' => e = .returned (.bool true) ∧ Below w.heap.size w w' := by
  obtain ⟨k, h⟩ := P a0 w0
  refine (culletlaw01_RingCounts.calls k a0 true w h).mono ?_
  rintro e w' ⟨rfl, hd⟩
  exact ⟨rfl, hd.below⟩

end Go.Proofs.Ytilacemjflomfaa.Q
