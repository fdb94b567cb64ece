-- Printed for this claim by mp.py, a program of its prover, through the kit's print. Lean checks it.
import Derived.Test.YtidogckochpbgaaQx0
namespace Go.Proofs.Ytidogckochpbgaa.Q
open Go.RowKit Go.Proofs.YtidogckochpbgaaW.PrintWords Go.Proofs.YtidogckochpbgaaW.PrintLast Go.Proofs.YtidogckochpbgaaW.PrintMore
attribute [local go_sem] max2_int min2_int max_two min_two max_three min_three max_four min_four   -- for this text's walks alone
set_option linter.unusedVariables false
set_option linter.unusedSimpArgs false

/-! ### matrix_Check: function 14 -/
mutual
def matrix_Check.j0 : Nat → List (List Int) → Bool → Option (Int)
  | 0, _, _ => none
  | k + 1, x0, x26 => if x26 = true then (some 100) else (matrix_Check.l0 k x0 x0 (x0.length : Int) 0)
def matrix_Check.l0 : Nat → List (List Int) → List (List Int) → Int → Int → Option (Int)
  | 0, _, _, _, _ => none
  | k + 1, x0, x27, x28, x29 => if x29 < x28 then (if 0 ≤ x29 then (if x29 < (x27.length : Int) then (if 0 < (x0.length : Int) then (if ((rd_L1 x27 x29).length : Int) = ((rd_L1 x0 0).length : Int) then (matrix_Check.l0 k x0 x27 x28 (wrap64 (x29 + 1))) else (some 100)) else (none)) else (none)) else (none)) else (some 0)
end
def matrix_Check.f (k : Nat) (l0 : List (List Int)) : Option (Int) := if (l0.length : Int) < 1 then (matrix_Check.j0 k l0 true) else (if (l0.length : Int) > 256 then (matrix_Check.j0 k l0 true) else (if 0 < (l0.length : Int) then (if ((rd_L1 l0 0).length : Int) < 1 then (matrix_Check.j0 k l0 true) else (matrix_Check.j0 k l0 (decide (((rd_L1 l0 0).length : Int) > 512)))) else (none)))
theorem matrix_Check.mono_l : ∀ k, (∀ y0 y1, LeO (matrix_Check.j0 k y0 y1) (matrix_Check.j0 (k + 1) y0 y1)) ∧ (∀ y0 y1 y2 y3, LeO (matrix_Check.l0 k y0 y1 y2 y3) (matrix_Check.l0 (k + 1) y0 y1 y2 y3))
  | 0 => ⟨fun _ _ r h => by simp [matrix_Check.j0] at h, fun _ _ _ _ r h => by simp [matrix_Check.l0] at h⟩
  | k + 1 => by
    obtain ⟨ih0, ih1⟩ := matrix_Check.mono_l k
    refine ⟨?_, ?_⟩
    · intro y0 y1
      unfold matrix_Check.j0
      repeat' first
      | (with_reducible exact ih0 _ _)
      | (with_reducible exact ih1 _ _ _ _)
      | (with_reducible exact LeO.refl _)
      | (with_reducible exact LeO.none _)
      | (with_reducible refine LeO.ite ?_ ?_)
      | (with_reducible refine LeO.bind ?_ (fun _ => ?_))
      | exact ih0 _ _
      | exact ih1 _ _ _ _
      | exact LeO.none _
      | refine LeO.ite ?_ ?_
      | refine LeO.bind ?_ (fun _ => ?_)
    · intro y0 y1 y2 y3
      unfold matrix_Check.l0
      repeat' first
      | (with_reducible exact ih0 _ _)
      | (with_reducible exact ih1 _ _ _ _)
      | (with_reducible exact LeO.refl _)
      | (with_reducible exact LeO.none _)
      | (with_reducible refine LeO.ite ?_ ?_)
      | (with_reducible refine LeO.bind ?_ (fun _ => ?_))
      | exact ih0 _ _
      | exact ih1 _ _ _ _
      | exact LeO.none _
      | refine LeO.ite ?_ ?_
      | refine LeO.bind ?_ (fun _ => ?_)
theorem matrix_Check.mono : ∀ a0 k, LeO (matrix_Check.f k a0) (matrix_Check.f (k + 1) a0) := by
  intro a0 k
  obtain ⟨ih0, ih1⟩ := matrix_Check.mono_l k
  unfold matrix_Check.f
  repeat' first
      | (with_reducible exact ih0 _ _)
      | (with_reducible exact ih1 _ _ _ _)
      | (with_reducible exact LeO.refl _)
      | (with_reducible exact LeO.none _)
      | (with_reducible refine LeO.ite ?_ ?_)
      | (with_reducible refine LeO.bind ?_ (fun _ => ?_))
      | exact ih0 _ _
      | exact ih1 _ _ _ _
      | exact LeO.none _
      | refine LeO.ite ?_ ?_
      | refine LeO.bind ?_ (fun _ => ?_)
set_option maxHeartbeats 8000000 in
set_option maxRecDepth 100000 in
theorem matrix_Check.calls (k : Nat) (A0 : Option Addr) (c0 : Nat) (l0 : List (List Int)) (r : Int) (w : World) (hr0 : Kd.C (Kd.slice 5 (Kd.int .u8)) w A0 l0.length l0) (hc0 : l0.length ≤ c0) (h : matrix_Check.f k l0 = some r) :
    Calls Try.prog 14 #[.slice A0 l0.length c0] w fun e w' => e = .returned (.int .i64 r) ∧ Drawn0 w w' := by
  have HR0 := Aside0.mk hr0
  have HC0 := Aside0.mk hc0
  clear hr0 hc0
  have H : (if (l0.length : Int) < 1 then (matrix_Check.j0 k l0 true) else (if (l0.length : Int) > 256 then (matrix_Check.j0 k l0 true) else (if 0 < (l0.length : Int) then (if ((rd_L1 l0 0).length : Int) < 1 then (matrix_Check.j0 k l0 true) else (matrix_Check.j0 k l0 (decide (((rd_L1 l0 0).length : Int) > 512)))) else (none)))) = some r := h
  clear h
  have HC2 := Aside0.mk H
  clear H
  go_enter Try.func14, Try.ntmps14
  go_upto_region 1 with (fail)
  go_cut [26] (fun v26 wc => ∃ (kq : Nat) (x26_1 : Bool), v26 = .bool x26_1 ∧ Aside0 (matrix_Check.j0 kq l0 x26_1 = some r) ∧ Aside0 (kq ≤ k) ∧ Drawn0 w wc)
  case first =>
    have H := HC2.out
    clear HC2
    by_cases c3 : (l0.length : Int) < 1
    · rw [if_pos c3] at H
      have c3b0 : decide ((l0.length : Int) < 1) = true := decide_eq_true c3
      have c3b1 : decide (l0.length < 1) = true := decide_eq_true (by omega)
      clear c3
      (first | rw [c3b0] | (simp only [i64_w, i32_w]; rw [c3b0]) | skip)
      have H' := Aside0.mk H
      clear H
      go_wp2
      go_meet
      case rel => exact ⟨_, (true), (by first | rfl | (simp; done) | (simp [*]; done)), H', ⟨by first | omega | exact Nat.le_refl _⟩, by repeat (first | exact Drawn0.refl _ | apply Drawn0.step)⟩
    · rw [if_neg c3] at H
      have c3b0 : decide ((l0.length : Int) < 1) = false := decide_eq_false c3
      have c3b1 : decide (l0.length < 1) = false := decide_eq_false (by omega)
      clear c3
      (first | rw [c3b0] | (simp only [i64_w, i32_w]; rw [c3b0]) | skip)
      by_cases c4 : (l0.length : Int) > 256
      · rw [if_pos c4] at H
        have c4b0 : decide (256 < (l0.length : Int)) = true := decide_eq_true c4
        have c4b1 : decide (256 < l0.length) = true := decide_eq_true (by omega)
        clear c4
        have H' := Aside0.mk H
        clear H
        go_wp2
        go_meet
        case rel => exact ⟨_, (true), (by first | rfl | (simp; done) | (simp [*]; done)), H', ⟨by first | omega | exact Nat.le_refl _⟩, by repeat (first | exact Drawn0.refl _ | apply Drawn0.step)⟩
      · rw [if_neg c4] at H
        have c4b0 : decide (256 < (l0.length : Int)) = false := decide_eq_false c4
        have c4b1 : decide (256 < l0.length) = false := decide_eq_false (by omega)
        clear c4
        by_cases c5 : 0 < (l0.length : Int)
        · rw [if_pos c5] at H
          have c5b0 : decide (0 < (l0.length : Int)) = true := decide_eq_true c5
          have c5b1 : decide (0 < l0.length) = true := decide_eq_true (by omega)
          clear c5
          by_cases c6 : ((rd_L1 l0 0).length : Int) < 1
          · rw [if_pos c6] at H
            have c6b0 : decide (((rd_L1 l0 0).length : Int) < 1) = true := decide_eq_true c6
            have c6b1 : decide ((rd_L1 l0 0).length < 1) = true := decide_eq_true (by omega)
            clear c6
            have H' := Aside0.mk H
            clear H
            have p123 : 0 ≤ (0 : Int) := (by omega)
            have q123 : 0 < (l0.length : Int) := of_decide_eq_true (by first | (with_reducible assumption) | assumption)
            obtain ⟨ad123, A123_0, c123_0, e123, hx123_0, hl123_0, hi123_0⟩ := at_L1 HR0.out 0 p123 q123
            cases e123
            have qi123 : (0 < l0.length) = True := eq_true (by omega)
            (try rw [show ((0 : Int)).toNat = 0 from rfl] at hx123_0)
            (try rw [Addr.add_zero'] at hx123_0)
            have HR123_0 := Aside0.mk hi123_0
            have HC123_0 := Aside0.mk hl123_0
            clear hi123_0 hl123_0
            replace p123 := eq_true p123
            replace q123 := eq_true q123
            go_wp2
            go_meet
            case rel => exact ⟨_, (true), (by first | rfl | (simp; done) | (simp [*]; done)), H', ⟨by first | omega | exact Nat.le_refl _⟩, by repeat (first | exact Drawn0.refl _ | apply Drawn0.step)⟩
          · rw [if_neg c6] at H
            have c6b0 : decide (((rd_L1 l0 0).length : Int) < 1) = false := decide_eq_false c6
            have c6b1 : decide ((rd_L1 l0 0).length < 1) = false := decide_eq_false (by omega)
            clear c6
            have H' := Aside0.mk H
            clear H
            have p123 : 0 ≤ (0 : Int) := (by omega)
            have q123 : 0 < (l0.length : Int) := of_decide_eq_true (by first | (with_reducible assumption) | assumption)
            obtain ⟨ad123, A123_0, c123_0, e123, hx123_0, hl123_0, hi123_0⟩ := at_L1 HR0.out 0 p123 q123
            cases e123
            have qi123 : (0 < l0.length) = True := eq_true (by omega)
            (try rw [show ((0 : Int)).toNat = 0 from rfl] at hx123_0)
            (try rw [Addr.add_zero'] at hx123_0)
            have HR123_0 := Aside0.mk hi123_0
            have HC123_0 := Aside0.mk hl123_0
            clear hi123_0 hl123_0
            replace p123 := eq_true p123
            replace q123 := eq_true q123
            have p124 : 0 ≤ (0 : Int) := (by omega)
            have q124 : 0 < (l0.length : Int) := of_decide_eq_true (by first | (with_reducible assumption) | assumption)
            obtain ⟨ad124, A124_0, c124_0, e124, hx124_0, hl124_0, hi124_0⟩ := at_L1 HR0.out 0 p124 q124
            obtain rfl : ad123 = ad124 := (by injection e124)
            have qi124 : (0 < l0.length) = True := eq_true (by omega)
            (try rw [show ((0 : Int)).toNat = 0 from rfl] at hx124_0)
            (try rw [Addr.add_zero'] at hx124_0)
            have HR124_0 := Aside0.mk hi124_0
            have HC124_0 := Aside0.mk hl124_0
            clear hi124_0 hl124_0
            replace p124 := eq_true p124
            replace q124 := eq_true q124
            have ea_ := Option.some.inj (hx123_0.symm.trans hx124_0)
            injection ea_ with ea_ en_ ec_
            subst ea_
            subst ec_
            clear en_
            go_wp2
            go_meet
            case rel => exact ⟨_, (decide (((rd_L1 l0 0).length : Int) > 512)), (by first | rfl | (simp; done) | (simp [*]; done)), H', ⟨by first | omega | exact Nat.le_refl _⟩, by repeat (first | exact Drawn0.refl _ | apply Drawn0.step)⟩
        · rw [if_neg c5] at H
          exact absurd H (by simp)
  case rest =>
    clear HC2
    try clear c1
    try clear p1
    try clear q1
    try clear hx1
    try clear qi1
    try clear p2
    try clear c3
    try clear c3b0
    try clear c3b1
    try clear c4
    try clear c4b0
    try clear c4b1
    try clear c5
    try clear c5b0
    try clear c5b1
    try clear c6
    try clear c6b0
    try clear c6b1
    try clear hx123_0
    try clear hx124_0
    try clear p123
    try clear p124
    try clear q123
    try clear q124
    obtain ⟨kq, x26_1, rfl, HA, HJ1, ⟨mc1, rfl⟩⟩ := hcut
    cases kq with
    | zero => exact absurd HA.out (by simp [matrix_Check.j0])
    | succ kj1 =>
      have H := HA.out
      clear HA
      simp only [matrix_Check.j0] at H
      by_cases c7 : x26_1 = true
      · subst c7
        have H1 : (some 100) = some r := by rw [if_pos rfl] at H; exact H
        clear H
        have H := H1
        clear H1
        obtain rfl := Option.some.inj H
        go_wp2
        go_ret
        exact ⟨by first | rfl | (simp; done) | (simp [*]; done), by repeat (first | exact Drawn0.refl _ | apply Drawn0.step)⟩
      · replace c7 := Bool.eq_false_iff.mpr c7
        subst c7
        have H1 : (matrix_Check.l0 kj1 l0 l0 (l0.length : Int) 0) = some r := by rw [if_neg (show ¬ (false = true) by decide)] at H; exact H
        clear H
        have H := H1
        clear H1
        have H' := Aside0.mk H
        clear H
        go_wp2
        go_loopg [29] kj1 (fun kq v29 w' => ∃ (x29_2 : Int), v29 = .int .i64 x29_2 ∧ Aside0 (matrix_Check.l0 kq l0 l0 (l0.length : Int) x29_2 = some r) ∧ Aside0 (kq ≤ kj1) ∧ Drawn0 w w')
        case atStart => exact ⟨(0), (by first | rfl | (simp; done) | (simp [*]; done)), H', ⟨Nat.le_refl _⟩, by repeat (first | exact Drawn0.refl _ | apply Drawn0.step)⟩
        case round =>
          clear H'
          try clear c1
          try clear p1
          try clear q1
          try clear hx1
          try clear qi1
          try clear p2
          try clear c3
          try clear c3b0
          try clear c3b1
          try clear c4
          try clear c4b0
          try clear c4b1
          try clear c5
          try clear c5b0
          try clear c5b1
          try clear c6
          try clear c6b0
          try clear c6b1
          try clear c7
          try clear hx123_0
          try clear hx124_0
          try clear p1
          try clear p123
          try clear p124
          try clear p2
          try clear q1
          try clear q123
          try clear q124
          obtain ⟨x29_2, rfl, HA, HK2, ⟨m2, rfl⟩⟩ := hrel
          cases gk with
          | zero => exact absurd HA.out (by simp [matrix_Check.l0])
          | succ k2 =>
            have H := HA.out
            clear HA
            simp only [matrix_Check.l0] at H
            by_cases c8 : x29_2 < (l0.length : Int)
            · rw [if_pos c8] at H
              have c8b0 : decide (x29_2 < (l0.length : Int)) = true := decide_eq_true c8
              clear c8
              by_cases c9 : 0 ≤ x29_2
              · rw [if_pos c9] at H
                have c9b0 : decide (0 ≤ x29_2) = true := decide_eq_true c9
                clear c9
                by_cases c10 : x29_2 < (l0.length : Int)
                · rw [if_pos c10] at H
                  have c10b0 : decide (x29_2 < (l0.length : Int)) = true := decide_eq_true c10
                  clear c10
                  by_cases c11 : 0 < (l0.length : Int)
                  · rw [if_pos c11] at H
                    have c11b0 : decide (0 < (l0.length : Int)) = true := decide_eq_true c11
                    have c11b1 : decide (0 < l0.length) = true := decide_eq_true (by omega)
                    clear c11
                    by_cases c12 : ((rd_L1 l0 x29_2).length : Int) = ((rd_L1 l0 0).length : Int)
                    · rw [if_pos c12] at H
                      have c12b0 : (((rd_L1 l0 x29_2).length : Int) == ((rd_L1 l0 0).length : Int)) = true := beq_iff_eq.mpr c12
                      have c12b1 : (((rd_L1 l0 x29_2).length : Int) != ((rd_L1 l0 0).length : Int)) = false := bne_eq_false_iff_eq.mpr c12
                      have c12b2 : ((rd_L1 l0 x29_2).length == (rd_L1 l0 0).length) = true := by first | simpa using c12 | (simp at c12 ⊢; omega)
                      clear c12
                      have H' := Aside0.mk H
                      clear H
                      have p125 : 0 ≤ (x29_2 : Int) := of_decide_eq_true (by first | (with_reducible assumption) | assumption)
                      have q125 : x29_2 < (l0.length : Int) := of_decide_eq_true (by first | (with_reducible assumption) | assumption)
                      obtain ⟨ad125, A125_0, c125_0, e125, hx125_0, hl125_0, hi125_0⟩ := at_L1 HR0.out x29_2 p125 q125
                      cases e125
                      have HR125_0 := Aside0.mk hi125_0
                      have HC125_0 := Aside0.mk hl125_0
                      clear hi125_0 hl125_0
                      replace p125 := eq_true p125
                      replace q125 := eq_true q125
                      have p126 : 0 ≤ (0 : Int) := (by omega)
                      have q126 : 0 < (l0.length : Int) := of_decide_eq_true (by first | (with_reducible assumption) | assumption)
                      obtain ⟨ad126, A126_0, c126_0, e126, hx126_0, hl126_0, hi126_0⟩ := at_L1 HR0.out 0 p126 q126
                      obtain rfl : ad125 = ad126 := (by injection e126)
                      have qi126 : (0 < l0.length) = True := eq_true (by omega)
                      (try rw [show ((0 : Int)).toNat = 0 from rfl] at hx126_0)
                      (try rw [Addr.add_zero'] at hx126_0)
                      have HR126_0 := Aside0.mk hi126_0
                      have HC126_0 := Aside0.mk hl126_0
                      clear hi126_0 hl126_0
                      replace p126 := eq_true p126
                      replace q126 := eq_true q126
                      go_wp2
                      go_roundg k2
                      case measure => have := HJ1.out; have := HK2.out; omega
                      case rel => exact ⟨(wrap64 (x29_2 + 1)), (by first | rfl | (simp; done) | (simp [*]; done)), H', ⟨by have := HJ1.out; have := HK2.out; omega⟩, by repeat (first | exact Drawn0.refl _ | apply Drawn0.step)⟩
                    · rw [if_neg c12] at H
                      have c12b0 : (((rd_L1 l0 x29_2).length : Int) == ((rd_L1 l0 0).length : Int)) = false := beq_eq_false_iff_ne.mpr c12
                      have c12b1 : (((rd_L1 l0 x29_2).length : Int) != ((rd_L1 l0 0).length : Int)) = true := bne_iff_ne.mpr c12
                      have c12b2 : ((rd_L1 l0 x29_2).length == (rd_L1 l0 0).length) = false := by first | simpa using c12 | (simp at c12 ⊢; omega)
                      obtain rfl := Option.some.inj H
                      have p125 : 0 ≤ (x29_2 : Int) := of_decide_eq_true (by first | (with_reducible assumption) | assumption)
                      have q125 : x29_2 < (l0.length : Int) := of_decide_eq_true (by first | (with_reducible assumption) | assumption)
                      obtain ⟨ad125, A125_0, c125_0, e125, hx125_0, hl125_0, hi125_0⟩ := at_L1 HR0.out x29_2 p125 q125
                      cases e125
                      have HR125_0 := Aside0.mk hi125_0
                      have HC125_0 := Aside0.mk hl125_0
                      clear hi125_0 hl125_0
                      replace p125 := eq_true p125
                      replace q125 := eq_true q125
                      have p126 : 0 ≤ (0 : Int) := (by omega)
                      have q126 : 0 < (l0.length : Int) := of_decide_eq_true (by first | (with_reducible assumption) | assumption)
                      obtain ⟨ad126, A126_0, c126_0, e126, hx126_0, hl126_0, hi126_0⟩ := at_L1 HR0.out 0 p126 q126
                      obtain rfl : ad125 = ad126 := (by injection e126)
                      have qi126 : (0 < l0.length) = True := eq_true (by omega)
                      (try rw [show ((0 : Int)).toNat = 0 from rfl] at hx126_0)
                      (try rw [Addr.add_zero'] at hx126_0)
                      have HR126_0 := Aside0.mk hi126_0
                      have HC126_0 := Aside0.mk hl126_0
                      clear hi126_0 hl126_0
                      replace p126 := eq_true p126
                      replace q126 := eq_true q126
                      go_wp2
                      go_ret
                      exact ⟨by first | rfl | (simp; done) | (simp [*]; done), by repeat (first | exact Drawn0.refl _ | apply Drawn0.step)⟩
                  · rw [if_neg c11] at H
                    exact absurd H (by simp)
                · rw [if_neg c10] at H
                  exact absurd H (by simp)
              · rw [if_neg c9] at H
                exact absurd H (by simp)
            · rw [if_neg c8] at H
              have c8b0 : decide (x29_2 < (l0.length : Int)) = false := decide_eq_false c8
              clear c8
              obtain rfl := Option.some.inj H
              go_wp2
              go_ret
              exact ⟨by first | rfl | (simp; done) | (simp [*]; done), by repeat (first | exact Drawn0.refl _ | apply Drawn0.step)⟩

end Go.Proofs.Ytidogckochpbgaa.Q
