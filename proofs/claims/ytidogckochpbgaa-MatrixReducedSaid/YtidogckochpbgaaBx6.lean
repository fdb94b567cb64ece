-- Printed for this claim by mp.py, a program of its prover, through the kit's print. Lean checks it.
import Derived.Test.YtidogckochpbgaaBx0
namespace Go.Proofs.Ytidogckochpbgaa.B
open Go.RowKit Go.Proofs.YtidogckochpbgaaW.PrintWords Go.Proofs.YtidogckochpbgaaW.PrintLast Go.Proofs.YtidogckochpbgaaW.PrintMore Go.Proofs.Ytidogckochpbgaa.A
attribute [local go_sem] max2_int min2_int max_two min_two max_three min_three max_four min_four   -- for this text's walks alone
set_option linter.unusedVariables false
set_option linter.unusedSimpArgs false

/-! ### culletlaw10_stairs: function 27 -/
mutual
def culletlaw10_stairs.l0 : Nat → List (List Int) → List Int → Int → Option (Bool)
  | 0, _, _, _ => none
  | k + 1, x0, x1, x5 => if x5 < (x1.length : Int) then (if 0 ≤ x5 then (if x5 ≥ (x0.length : Int) then (culletlaw10_stairs.j1 k x0 x1 x5 (rd x1 x5) true) else (if (rd x1 x5) < 0 then (culletlaw10_stairs.j1 k x0 x1 x5 (rd x1 x5) true) else (if x5 < (x0.length : Int) then (if (rd x1 x5) ≥ ((rd_L1 x0 x5).length : Int) then (culletlaw10_stairs.j1 k x0 x1 x5 (rd x1 x5) true) else (if x5 > 0 then (if 0 ≤ (wrap64 (x5 - 1)) then (if (wrap64 (x5 - 1)) < (x1.length : Int) then (culletlaw10_stairs.j1 k x0 x1 x5 (rd x1 x5) (decide ((rd x1 x5) ≤ (rd x1 (wrap64 (x5 - 1)))))) else (none)) else (none)) else (culletlaw10_stairs.j1 k x0 x1 x5 (rd x1 x5) false))) else (none)))) else (none)) else (culletlaw10_stairs.l3 k x0 (x1.length : Int))
def culletlaw10_stairs.j1 : Nat → List (List Int) → List Int → Int → Int → Bool → Option (Bool)
  | 0, _, _, _, _, _ => none
  | k + 1, x0, x1, x5, x6, x50 => if x50 = true then (some false) else (culletlaw10_stairs.l1 k x0 x1 x5 x6 0)
def culletlaw10_stairs.l1 : Nat → List (List Int) → List Int → Int → Int → Int → Option (Bool)
  | 0, _, _, _, _, _ => none
  | k + 1, x0, x1, x5, x6, x7 => if x7 < x6 then (if 0 ≤ x5 then (if x5 < (x0.length : Int) then (if 0 ≤ x7 then (if x7 < ((rd_L1 x0 x5).length : Int) then (if (rd (rd_L1 x0 x5) x7) = 0 then (culletlaw10_stairs.l1 k x0 x1 x5 x6 (wrap64 (x7 + 1))) else (some false)) else (none)) else (none)) else (none)) else (none)) else (culletlaw10_stairs.l2 k x0 x1 x5 x6 0)
def culletlaw10_stairs.l2 : Nat → List (List Int) → List Int → Int → Int → Int → Option (Bool)
  | 0, _, _, _, _, _ => none
  | k + 1, x0, x1, x5, x6, x8 => if x8 < (x0.length : Int) then (if 0 ≤ x8 then (if 0 ≤ x6 then (if x6 < ((rd_L1 x0 x8).length : Int) then (if (rd (rd_L1 x0 x8) x6) = 0 then (if (rd (rd_L1 x0 x8) x6) = 1 then (culletlaw10_stairs.l2 k x0 x1 x5 x6 (wrap64 (x8 + 1))) else (if x8 = x5 then (some false) else (culletlaw10_stairs.l2 k x0 x1 x5 x6 (wrap64 (x8 + 1))))) else (if x8 = x5 then (if (rd (rd_L1 x0 x8) x6) = 1 then (culletlaw10_stairs.l2 k x0 x1 x5 x6 (wrap64 (x8 + 1))) else (some false)) else (some false))) else (none)) else (none)) else (none)) else (culletlaw10_stairs.l0 k x0 x1 (wrap64 (x5 + 1)))
def culletlaw10_stairs.l3 : Nat → List (List Int) → Int → Option (Bool)
  | 0, _, _ => none
  | k + 1, x0, x9 => if x9 < (x0.length : Int) then (culletlaw10_stairs.l4 k x0 x9 0) else (some true)
def culletlaw10_stairs.l4 : Nat → List (List Int) → Int → Int → Option (Bool)
  | 0, _, _, _ => none
  | k + 1, x0, x9, x10 => if 0 ≤ x9 then (if x9 < (x0.length : Int) then (if x10 < ((rd_L1 x0 x9).length : Int) then (if 0 ≤ x10 then (if (rd (rd_L1 x0 x9) x10) = 0 then (culletlaw10_stairs.l4 k x0 x9 (wrap64 (x10 + 1))) else (some false)) else (none)) else (culletlaw10_stairs.l3 k x0 (wrap64 (x9 + 1)))) else (none)) else (none)
end
def culletlaw10_stairs.f (k : Nat) (l0 : List (List Int)) (l1 : List Int) : Option (Bool) := culletlaw10_stairs.l0 k l0 l1 0
theorem culletlaw10_stairs.mono_l : ∀ k, (∀ y0 y1 y2, LeO (culletlaw10_stairs.l0 k y0 y1 y2) (culletlaw10_stairs.l0 (k + 1) y0 y1 y2)) ∧ (∀ y0 y1 y2 y3 y4, LeO (culletlaw10_stairs.j1 k y0 y1 y2 y3 y4) (culletlaw10_stairs.j1 (k + 1) y0 y1 y2 y3 y4)) ∧ (∀ y0 y1 y2 y3 y4, LeO (culletlaw10_stairs.l1 k y0 y1 y2 y3 y4) (culletlaw10_stairs.l1 (k + 1) y0 y1 y2 y3 y4)) ∧ (∀ y0 y1 y2 y3 y4, LeO (culletlaw10_stairs.l2 k y0 y1 y2 y3 y4) (culletlaw10_stairs.l2 (k + 1) y0 y1 y2 y3 y4)) ∧ (∀ y0 y1, LeO (culletlaw10_stairs.l3 k y0 y1) (culletlaw10_stairs.l3 (k + 1) y0 y1)) ∧ (∀ y0 y1 y2, LeO (culletlaw10_stairs.l4 k y0 y1 y2) (culletlaw10_stairs.l4 (k + 1) y0 y1 y2))
  | 0 => ⟨fun _ _ _ r h => by simp [culletlaw10_stairs.l0] at h, fun _ _ _ _ _ r h => by simp [culletlaw10_stairs.j1] at h, fun _ _ _ _ _ r h => by simp [culletlaw10_stairs.l1] at h, fun _ _ _ _ _ r h => by simp [culletlaw10_stairs.l2] at h, fun _ _ r h => by simp [culletlaw10_stairs.l3] at h, fun _ _ _ r h => by simp [culletlaw10_stairs.l4] at h⟩
  | k + 1 => by
    obtain ⟨ih0, ih1, ih2, ih3, ih4, ih5⟩ := culletlaw10_stairs.mono_l k
    refine ⟨?_, ?_, ?_, ?_, ?_, ?_⟩
    · intro y0 y1 y2
      unfold culletlaw10_stairs.l0
      repeat' first
      | (with_reducible exact ih0 _ _ _)
      | (with_reducible exact ih1 _ _ _ _ _)
      | (with_reducible exact ih2 _ _ _ _ _)
      | (with_reducible exact ih3 _ _ _ _ _)
      | (with_reducible exact ih4 _ _)
      | (with_reducible exact ih5 _ _ _)
      | (with_reducible exact LeO.refl _)
      | (with_reducible exact LeO.none _)
      | (with_reducible refine LeO.ite ?_ ?_)
      | (with_reducible refine LeO.bind ?_ (fun _ => ?_))
      | exact ih0 _ _ _
      | exact ih1 _ _ _ _ _
      | exact ih2 _ _ _ _ _
      | exact ih3 _ _ _ _ _
      | exact ih4 _ _
      | exact ih5 _ _ _
      | exact LeO.none _
      | refine LeO.ite ?_ ?_
      | refine LeO.bind ?_ (fun _ => ?_)
    · intro y0 y1 y2 y3 y4
      unfold culletlaw10_stairs.j1
      repeat' first
      | (with_reducible exact ih0 _ _ _)
      | (with_reducible exact ih1 _ _ _ _ _)
      | (with_reducible exact ih2 _ _ _ _ _)
      | (with_reducible exact ih3 _ _ _ _ _)
      | (with_reducible exact ih4 _ _)
      | (with_reducible exact ih5 _ _ _)
      | (with_reducible exact LeO.refl _)
      | (with_reducible exact LeO.none _)
      | (with_reducible refine LeO.ite ?_ ?_)
      | (with_reducible refine LeO.bind ?_ (fun _ => ?_))
      | exact ih0 _ _ _
      | exact ih1 _ _ _ _ _
      | exact ih2 _ _ _ _ _
      | exact ih3 _ _ _ _ _
      | exact ih4 _ _
      | exact ih5 _ _ _
      | exact LeO.none _
      | refine LeO.ite ?_ ?_
      | refine LeO.bind ?_ (fun _ => ?_)
    · intro y0 y1 y2 y3 y4
      unfold culletlaw10_stairs.l1
      repeat' first
      | (with_reducible exact ih0 _ _ _)
      | (with_reducible exact ih1 _ _ _ _ _)
      | (with_reducible exact ih2 _ _ _ _ _)
      | (with_reducible exact ih3 _ _ _ _ _)
      | (with_reducible exact ih4 _ _)
      | (with_reducible exact ih5 _ _ _)
      | (with_reducible exact LeO.refl _)
      | (with_reducible exact LeO.none _)
      | (with_reducible refine LeO.ite ?_ ?_)
      | (with_reducible refine LeO.bind ?_ (fun _ => ?_))
      | exact ih0 _ _ _
      | exact ih1 _ _ _ _ _
      | exact ih2 _ _ _ _ _
      | exact ih3 _ _ _ _ _
      | exact ih4 _ _
      | exact ih5 _ _ _
      | exact LeO.none _
      | refine LeO.ite ?_ ?_
      | refine LeO.bind ?_ (fun _ => ?_)
    · intro y0 y1 y2 y3 y4
      unfold culletlaw10_stairs.l2
      repeat' first
      | (with_reducible exact ih0 _ _ _)
      | (with_reducible exact ih1 _ _ _ _ _)
      | (with_reducible exact ih2 _ _ _ _ _)
      | (with_reducible exact ih3 _ _ _ _ _)
      | (with_reducible exact ih4 _ _)
      | (with_reducible exact ih5 _ _ _)
      | (with_reducible exact LeO.refl _)
      | (with_reducible exact LeO.none _)
      | (with_reducible refine LeO.ite ?_ ?_)
      | (with_reducible refine LeO.bind ?_ (fun _ => ?_))
      | exact ih0 _ _ _
      | exact ih1 _ _ _ _ _
      | exact ih2 _ _ _ _ _
      | exact ih3 _ _ _ _ _
      | exact ih4 _ _
      | exact ih5 _ _ _
      | exact LeO.none _
      | refine LeO.ite ?_ ?_
      | refine LeO.bind ?_ (fun _ => ?_)
    · intro y0 y1
      unfold culletlaw10_stairs.l3
      repeat' first
      | (with_reducible exact ih0 _ _ _)
      | (with_reducible exact ih1 _ _ _ _ _)
      | (with_reducible exact ih2 _ _ _ _ _)
      | (with_reducible exact ih3 _ _ _ _ _)
      | (with_reducible exact ih4 _ _)
      | (with_reducible exact ih5 _ _ _)
      | (with_reducible exact LeO.refl _)
      | (with_reducible exact LeO.none _)
      | (with_reducible refine LeO.ite ?_ ?_)
      | (with_reducible refine LeO.bind ?_ (fun _ => ?_))
      | exact ih0 _ _ _
      | exact ih1 _ _ _ _ _
      | exact ih2 _ _ _ _ _
      | exact ih3 _ _ _ _ _
      | exact ih4 _ _
      | exact ih5 _ _ _
      | exact LeO.none _
      | refine LeO.ite ?_ ?_
      | refine LeO.bind ?_ (fun _ => ?_)
    · intro y0 y1 y2
      unfold culletlaw10_stairs.l4
      repeat' first
      | (with_reducible exact ih0 _ _ _)
      | (with_reducible exact ih1 _ _ _ _ _)
      | (with_reducible exact ih2 _ _ _ _ _)
      | (with_reducible exact ih3 _ _ _ _ _)
      | (with_reducible exact ih4 _ _)
      | (with_reducible exact ih5 _ _ _)
      | (with_reducible exact LeO.refl _)
      | (with_reducible exact LeO.none _)
      | (with_reducible refine LeO.ite ?_ ?_)
      | (with_reducible refine LeO.bind ?_ (fun _ => ?_))
      | exact ih0 _ _ _
      | exact ih1 _ _ _ _ _
      | exact ih2 _ _ _ _ _
      | exact ih3 _ _ _ _ _
      | exact ih4 _ _
      | exact ih5 _ _ _
      | exact LeO.none _
      | refine LeO.ite ?_ ?_
      | refine LeO.bind ?_ (fun _ => ?_)
theorem culletlaw10_stairs.mono : ∀ a0 a1 k, LeO (culletlaw10_stairs.f k a0 a1) (culletlaw10_stairs.f (k + 1) a0 a1) := by
  intro a0 a1 k
  obtain ⟨ih0, ih1, ih2, ih3, ih4, ih5⟩ := culletlaw10_stairs.mono_l k
  unfold culletlaw10_stairs.f
  repeat' first
      | (with_reducible exact ih0 _ _ _)
      | (with_reducible exact ih1 _ _ _ _ _)
      | (with_reducible exact ih2 _ _ _ _ _)
      | (with_reducible exact ih3 _ _ _ _ _)
      | (with_reducible exact ih4 _ _)
      | (with_reducible exact ih5 _ _ _)
      | (with_reducible exact LeO.refl _)
      | (with_reducible exact LeO.none _)
      | (with_reducible refine LeO.ite ?_ ?_)
      | (with_reducible refine LeO.bind ?_ (fun _ => ?_))
      | exact ih0 _ _ _
      | exact ih1 _ _ _ _ _
      | exact ih2 _ _ _ _ _
      | exact ih3 _ _ _ _ _
      | exact ih4 _ _
      | exact ih5 _ _ _
      | exact LeO.none _
      | refine LeO.ite ?_ ?_
      | refine LeO.bind ?_ (fun _ => ?_)
set_option maxHeartbeats 8000000 in
set_option maxRecDepth 100000 in
theorem culletlaw10_stairs.calls (k : Nat) (A0 : Option Addr) (c0 : Nat) (l0 : List (List Int)) (A1 : Option Addr) (c1 : Nat) (l1 : List Int) (r : Bool) (w : World) (hr0 : Kd.C (Kd.slice 5 (Kd.int .u8)) w A0 l0.length l0) (hc0 : l0.length ≤ c0) (hr1 : Kd.C (Kd.int .i64) w A1 l1.length l1) (hc1 : l1.length ≤ c1) (h : culletlaw10_stairs.f k l0 l1 = some r) :
    Calls Try.prog 27 #[.slice A0 l0.length c0, .slice A1 l1.length c1] w fun e w' => e = .returned (.bool r) ∧ Drawn0 w w' := by
  have HR0 := Aside0.mk hr0
  have HC0 := Aside0.mk hc0
  clear hr0 hc0
  have HR1 := Aside0.mk hr1
  have HC1 := Aside0.mk hc1
  clear hr1 hc1
  have H : (culletlaw10_stairs.l0 k l0 l1 0) = some r := h
  clear h
  have H' := Aside0.mk H
  clear H
  go_enter Try.func27, Try.ntmps27
  go_wp2
  go_loopg [5] k (fun kq v5 w' => ∃ (x5_1 : Int), v5 = .int .i64 x5_1 ∧ Aside0 (culletlaw10_stairs.l0 kq l0 l1 x5_1 = some r) ∧ Aside0 (kq ≤ k) ∧ Drawn0 w w')
  case atStart => exact ⟨(0), (by first | rfl | (simp; done) | (simp [*]; done)), H', ⟨Nat.le_refl _⟩, by repeat (first | exact Drawn0.refl _ | apply Drawn0.step)⟩
  case round =>
    clear H'
    try clear c1
    try clear c2
    try clear p2
    obtain ⟨x5_1, rfl, HA, HK1, ⟨m1, rfl⟩⟩ := hrel
    cases gk with
    | zero => exact absurd HA.out (by simp [culletlaw10_stairs.l0])
    | succ k1 =>
      have H := HA.out
      clear HA
      simp only [culletlaw10_stairs.l0] at H
      by_cases c3 : x5_1 < (l1.length : Int)
      · rw [if_pos c3] at H
        have c3b0 : decide (x5_1 < (l1.length : Int)) = true := decide_eq_true c3
        clear c3
        by_cases c4 : 0 ≤ x5_1
        · rw [if_pos c4] at H
          have c4b0 : decide (0 ≤ x5_1) = true := decide_eq_true c4
          clear c4
          have HC5 := Aside0.mk H
          clear H
          have p149 : 0 ≤ (x5_1 : Int) := of_decide_eq_true (by first | (with_reducible assumption) | assumption)
          have q149 : x5_1 < (l1.length : Int) := of_decide_eq_true (by first | (with_reducible assumption) | assumption)
          obtain ⟨ad149, e149, hx149_0⟩ := Kd.at_int HR1.out x5_1 p149 q149
          cases e149
          replace p149 := eq_true p149
          replace q149 := eq_true q149
          go_upto_region 5 with (fail)
          go_cut [50] (fun v50 wc => ∃ (kq : Nat) (x50_4 : Bool), v50 = .bool x50_4 ∧ Aside0 (culletlaw10_stairs.j1 kq l0 l1 x5_1 (rd l1 x5_1) x50_4 = some r) ∧ Aside0 (kq ≤ k1) ∧ Drawn0 w wc)
          case first =>
            have H := HC5.out
            clear HC5
            by_cases c6 : x5_1 ≥ (l0.length : Int)
            · rw [if_pos c6] at H
              have c6b0 : decide ((l0.length : Int) ≤ x5_1) = true := decide_eq_true c6
              clear c6
              (first | rw [c6b0] | (simp only [i64_w, i32_w]; rw [c6b0]) | skip)
              have H' := Aside0.mk H
              clear H
              go_wp2
              go_meet
              case rel => exact ⟨_, (true), (by first | rfl | (simp; done) | (simp [*]; done)), H', ⟨by have := HK1.out; first | omega | exact Nat.le_refl _⟩, by repeat (first | exact Drawn0.refl _ | apply Drawn0.step)⟩
            · rw [if_neg c6] at H
              have c6b0 : decide ((l0.length : Int) ≤ x5_1) = false := decide_eq_false c6
              clear c6
              (first | rw [c6b0] | (simp only [i64_w, i32_w]; rw [c6b0]) | skip)
              by_cases c7 : (rd l1 x5_1) < 0
              · rw [if_pos c7] at H
                have c7b0 : decide ((rd l1 x5_1) < 0) = true := decide_eq_true c7
                clear c7
                have H' := Aside0.mk H
                clear H
                go_wp2
                go_meet
                case rel => exact ⟨_, (true), (by first | rfl | (simp; done) | (simp [*]; done)), H', ⟨by have := HK1.out; first | omega | exact Nat.le_refl _⟩, by repeat (first | exact Drawn0.refl _ | apply Drawn0.step)⟩
              · rw [if_neg c7] at H
                have c7b0 : decide ((rd l1 x5_1) < 0) = false := decide_eq_false c7
                clear c7
                by_cases c8 : x5_1 < (l0.length : Int)
                · rw [if_pos c8] at H
                  have c8b0 : decide (x5_1 < (l0.length : Int)) = true := decide_eq_true c8
                  clear c8
                  by_cases c9 : (rd l1 x5_1) ≥ ((rd_L1 l0 x5_1).length : Int)
                  · rw [if_pos c9] at H
                    have c9b0 : decide (((rd_L1 l0 x5_1).length : Int) ≤ (rd l1 x5_1)) = true := decide_eq_true c9
                    clear c9
                    have H' := Aside0.mk H
                    clear H
                    have p150 : 0 ≤ (x5_1 : Int) := of_decide_eq_true (by first | (with_reducible assumption) | assumption)
                    have q150 : x5_1 < (l0.length : Int) := of_decide_eq_true (by first | (with_reducible assumption) | assumption)
                    obtain ⟨ad150, A150_0, c150_0, e150, hx150_0, hl150_0, hi150_0⟩ := at_L1 HR0.out x5_1 p150 q150
                    cases e150
                    have HR150_0 := Aside0.mk hi150_0
                    have HC150_0 := Aside0.mk hl150_0
                    clear hi150_0 hl150_0
                    replace p150 := eq_true p150
                    replace q150 := eq_true q150
                    go_wp2
                    go_meet
                    case rel => exact ⟨_, (true), (by first | rfl | (simp; done) | (simp [*]; done)), H', ⟨by have := HK1.out; first | omega | exact Nat.le_refl _⟩, by repeat (first | exact Drawn0.refl _ | apply Drawn0.step)⟩
                  · rw [if_neg c9] at H
                    have c9b0 : decide (((rd_L1 l0 x5_1).length : Int) ≤ (rd l1 x5_1)) = false := decide_eq_false c9
                    clear c9
                    by_cases c10 : x5_1 > 0
                    · rw [if_pos c10] at H
                      have c10b0 : decide (0 < x5_1) = true := decide_eq_true c10
                      clear c10
                      obtain ⟨ji11, hji11⟩ : ∃ j_ : Int, (wrap64 (x5_1 - 1)) = j_ := ⟨_, rfl⟩
                      replace H : (if 0 ≤ (ji11) then (if (ji11) < (l1.length : Int) then (culletlaw10_stairs.j1 k1 l0 l1 x5_1 (rd l1 x5_1) (decide ((rd l1 x5_1) ≤ (rd l1 (ji11))))) else (none)) else (none)) = some r := by first | (rw [hji11] at H; exact H) | (simp only [hji11] at H ⊢; exact H)
                      have hji11w : (IntKind.i64.wrap (x5_1 - 1)) = ji11 := (i64_w _).trans hji11
                      by_cases c12 : 0 ≤ (ji11)
                      · rw [if_pos c12] at H
                        have c12b0 : decide (0 ≤ (ji11)) = true := decide_eq_true c12
                        clear c12
                        by_cases c13 : (ji11) < (l1.length : Int)
                        · rw [if_pos c13] at H
                          have c13b0 : decide ((ji11) < (l1.length : Int)) = true := decide_eq_true c13
                          clear c13
                          have H' := Aside0.mk H
                          clear H
                          have p150 : 0 ≤ (x5_1 : Int) := of_decide_eq_true (by first | (with_reducible assumption) | assumption)
                          have q150 : x5_1 < (l0.length : Int) := of_decide_eq_true (by first | (with_reducible assumption) | assumption)
                          obtain ⟨ad150, A150_0, c150_0, e150, hx150_0, hl150_0, hi150_0⟩ := at_L1 HR0.out x5_1 p150 q150
                          cases e150
                          have HR150_0 := Aside0.mk hi150_0
                          have HC150_0 := Aside0.mk hl150_0
                          clear hi150_0 hl150_0
                          replace p150 := eq_true p150
                          replace q150 := eq_true q150
                          have p151 : 0 ≤ ((ji11) : Int) := of_decide_eq_true (by first | (with_reducible assumption) | assumption)
                          have q151 : (ji11) < (l1.length : Int) := of_decide_eq_true (by first | (with_reducible assumption) | assumption)
                          obtain ⟨ad151, e151, hx151_0⟩ := Kd.at_int HR1.out (ji11) p151 q151
                          obtain rfl : ad149 = ad151 := (by injection e151)
                          replace p151 := eq_true p151
                          replace q151 := eq_true q151
                          go_wp2
                          go_meet
                          case rel => exact ⟨_, (decide ((rd l1 x5_1) ≤ (rd l1 (ji11)))), (by first | rfl | (simp; done) | (simp only [← hji11] <;> (first | rfl | simp)) | (simp [*]; done)), H', ⟨by have := HK1.out; first | omega | exact Nat.le_refl _⟩, by repeat (first | exact Drawn0.refl _ | apply Drawn0.step)⟩
                        · rw [if_neg c13] at H
                          exact absurd H (by simp)
                      · rw [if_neg c12] at H
                        exact absurd H (by simp)
                    · rw [if_neg c10] at H
                      have c10b0 : decide (0 < x5_1) = false := decide_eq_false c10
                      clear c10
                      have H' := Aside0.mk H
                      clear H
                      have p150 : 0 ≤ (x5_1 : Int) := of_decide_eq_true (by first | (with_reducible assumption) | assumption)
                      have q150 : x5_1 < (l0.length : Int) := of_decide_eq_true (by first | (with_reducible assumption) | assumption)
                      obtain ⟨ad150, A150_0, c150_0, e150, hx150_0, hl150_0, hi150_0⟩ := at_L1 HR0.out x5_1 p150 q150
                      cases e150
                      have HR150_0 := Aside0.mk hi150_0
                      have HC150_0 := Aside0.mk hl150_0
                      clear hi150_0 hl150_0
                      replace p150 := eq_true p150
                      replace q150 := eq_true q150
                      go_wp2
                      go_meet
                      case rel => exact ⟨_, (false), (by first | rfl | (simp; done) | (simp [*]; done)), H', ⟨by have := HK1.out; first | omega | exact Nat.le_refl _⟩, by repeat (first | exact Drawn0.refl _ | apply Drawn0.step)⟩
                · rw [if_neg c8] at H
                  exact absurd H (by simp)
          case rest =>
            clear HC5
            try clear c1
            try clear p1
            try clear q1
            try clear hx1
            try clear c2
            try clear p2
            try clear c3
            try clear c3b0
            try clear c4
            try clear c4b0
            try clear c6
            try clear c6b0
            try clear p6
            try clear c7
            try clear c7b0
            try clear c8
            try clear c8b0
            try clear c9
            try clear c9b0
            try clear c10
            try clear c10b0
            try clear c12
            try clear c12b0
            try clear c13
            try clear c13b0
            try clear hx149_0
            try clear hx150_0
            try clear hx151_0
            try clear p149
            try clear p150
            try clear p151
            try clear p2
            try clear q149
            try clear q150
            try clear q151
            obtain ⟨kq, x50_4, rfl, HA, HJ4, ⟨mc4, rfl⟩⟩ := hcut
            cases kq with
            | zero => exact absurd HA.out (by simp [culletlaw10_stairs.j1])
            | succ kj4 =>
              have H := HA.out
              clear HA
              simp only [culletlaw10_stairs.j1] at H
              by_cases c14 : x50_4 = true
              · subst c14
                have H1 : (some false) = some r := by rw [if_pos rfl] at H; exact H
                clear H
                have H := H1
                clear H1
                obtain rfl := Option.some.inj H
                go_wp2
                go_ret
                exact ⟨by first | rfl | (simp; done) | (simp [*]; done), by repeat (first | exact Drawn0.refl _ | apply Drawn0.step)⟩
              · replace c14 := Bool.eq_false_iff.mpr c14
                subst c14
                have H1 : (culletlaw10_stairs.l1 kj4 l0 l1 x5_1 (rd l1 x5_1) 0) = some r := by rw [if_neg (show ¬ (false = true) by decide)] at H; exact H
                clear H
                have H := H1
                clear H1
                have H' := Aside0.mk H
                clear H
                go_wp2
                go_loopg [7] kj4 (fun kq v7 w' => ∃ (x7_3 : Int), v7 = .int .i64 x7_3 ∧ Aside0 (culletlaw10_stairs.l1 kq l0 l1 x5_1 (rd l1 x5_1) x7_3 = some r) ∧ Aside0 (kq ≤ kj4) ∧ Drawn0 w w')
                case atStart => exact ⟨(0), (by first | rfl | (simp; done) | (simp [*]; done)), H', ⟨Nat.le_refl _⟩, by repeat (first | exact Drawn0.refl _ | apply Drawn0.step)⟩
                case round =>
                  clear H'
                  try clear c1
                  try clear p1
                  try clear q1
                  try clear hx1
                  try clear c2
                  try clear p2
                  try clear c3
                  try clear c3b0
                  try clear c4
                  try clear c4b0
                  try clear c6
                  try clear c6b0
                  try clear p6
                  try clear c7
                  try clear c7b0
                  try clear c8
                  try clear c8b0
                  try clear c9
                  try clear c9b0
                  try clear c10
                  try clear c10b0
                  try clear c12
                  try clear c12b0
                  try clear c13
                  try clear c13b0
                  try clear c14
                  try clear p14
                  try clear q14
                  try clear hx14
                  try clear hx149_0
                  try clear hx150_0
                  try clear hx151_0
                  try clear p1
                  try clear p149
                  try clear p150
                  try clear p151
                  try clear p2
                  try clear p6
                  try clear q1
                  try clear q149
                  try clear q150
                  try clear q151
                  obtain ⟨x7_3, rfl, HA, HK3, ⟨m3, rfl⟩⟩ := hrel
                  cases gk with
                  | zero => exact absurd HA.out (by simp [culletlaw10_stairs.l1])
                  | succ k3 =>
                    have H := HA.out
                    clear HA
                    simp only [culletlaw10_stairs.l1] at H
                    by_cases c15 : x7_3 < (rd l1 x5_1)
                    · rw [if_pos c15] at H
                      have c15b0 : decide (x7_3 < (rd l1 x5_1)) = true := decide_eq_true c15
                      clear c15
                      by_cases c16 : 0 ≤ x5_1
                      · rw [if_pos c16] at H
                        have c16b0 : decide (0 ≤ x5_1) = true := decide_eq_true c16
                        clear c16
                        by_cases c17 : x5_1 < (l0.length : Int)
                        · rw [if_pos c17] at H
                          have c17b0 : decide (x5_1 < (l0.length : Int)) = true := decide_eq_true c17
                          clear c17
                          by_cases c18 : 0 ≤ x7_3
                          · rw [if_pos c18] at H
                            have c18b0 : decide (0 ≤ x7_3) = true := decide_eq_true c18
                            clear c18
                            by_cases c19 : x7_3 < ((rd_L1 l0 x5_1).length : Int)
                            · rw [if_pos c19] at H
                              have c19b0 : decide (x7_3 < ((rd_L1 l0 x5_1).length : Int)) = true := decide_eq_true c19
                              clear c19
                              by_cases c20 : (rd (rd_L1 l0 x5_1) x7_3) = 0
                              · rw [if_pos c20] at H
                                have c20b0 : ((rd (rd_L1 l0 x5_1) x7_3) == 0) = true := beq_iff_eq.mpr c20
                                have c20b1 : ((rd (rd_L1 l0 x5_1) x7_3) != 0) = false := bne_eq_false_iff_eq.mpr c20
                                clear c20
                                have H' := Aside0.mk H
                                clear H
                                have p152 : 0 ≤ (x5_1 : Int) := of_decide_eq_true (by first | (with_reducible assumption) | assumption)
                                have q152 : x5_1 < (l0.length : Int) := of_decide_eq_true (by first | (with_reducible assumption) | assumption)
                                obtain ⟨ad152, A152_0, c152_0, e152, hx152_0, hl152_0, hi152_0⟩ := at_L1 HR0.out x5_1 p152 q152
                                cases e152
                                have HR152_0 := Aside0.mk hi152_0
                                have HC152_0 := Aside0.mk hl152_0
                                clear hi152_0 hl152_0
                                replace p152 := eq_true p152
                                replace q152 := eq_true q152
                                have p153 : 0 ≤ (x7_3 : Int) := of_decide_eq_true (by first | (with_reducible assumption) | assumption)
                                have q153 : x7_3 < ((rd_L1 l0 x5_1).length : Int) := of_decide_eq_true (by first | (with_reducible assumption) | assumption)
                                obtain ⟨ad153, e153, hx153_0⟩ := Kd.at_int HR152_0.out x7_3 p153 q153
                                cases e153
                                replace p153 := eq_true p153
                                replace q153 := eq_true q153
                                go_wp2
                                go_roundg k3
                                case measure => have := HK1.out; have := HJ4.out; have := HK3.out; omega
                                case rel => exact ⟨(wrap64 (x7_3 + 1)), (by first | rfl | (simp; done) | (simp [*]; done)), H', ⟨by have := HK1.out; have := HJ4.out; have := HK3.out; omega⟩, by repeat (first | exact Drawn0.refl _ | apply Drawn0.step)⟩
                              · rw [if_neg c20] at H
                                have c20b0 : ((rd (rd_L1 l0 x5_1) x7_3) == 0) = false := beq_eq_false_iff_ne.mpr c20
                                have c20b1 : ((rd (rd_L1 l0 x5_1) x7_3) != 0) = true := bne_iff_ne.mpr c20
                                obtain rfl := Option.some.inj H
                                have p152 : 0 ≤ (x5_1 : Int) := of_decide_eq_true (by first | (with_reducible assumption) | assumption)
                                have q152 : x5_1 < (l0.length : Int) := of_decide_eq_true (by first | (with_reducible assumption) | assumption)
                                obtain ⟨ad152, A152_0, c152_0, e152, hx152_0, hl152_0, hi152_0⟩ := at_L1 HR0.out x5_1 p152 q152
                                cases e152
                                have HR152_0 := Aside0.mk hi152_0
                                have HC152_0 := Aside0.mk hl152_0
                                clear hi152_0 hl152_0
                                replace p152 := eq_true p152
                                replace q152 := eq_true q152
                                have p153 : 0 ≤ (x7_3 : Int) := of_decide_eq_true (by first | (with_reducible assumption) | assumption)
                                have q153 : x7_3 < ((rd_L1 l0 x5_1).length : Int) := of_decide_eq_true (by first | (with_reducible assumption) | assumption)
                                obtain ⟨ad153, e153, hx153_0⟩ := Kd.at_int HR152_0.out x7_3 p153 q153
                                cases e153
                                replace p153 := eq_true p153
                                replace q153 := eq_true q153
                                go_wp2
                                go_ret
                                exact ⟨by first | rfl | (simp; done) | (simp [*]; done), by repeat (first | exact Drawn0.refl _ | apply Drawn0.step)⟩
                            · rw [if_neg c19] at H
                              exact absurd H (by simp)
                          · rw [if_neg c18] at H
                            exact absurd H (by simp)
                        · rw [if_neg c17] at H
                          exact absurd H (by simp)
                      · rw [if_neg c16] at H
                        exact absurd H (by simp)
                    · rw [if_neg c15] at H
                      have c15b0 : decide (x7_3 < (rd l1 x5_1)) = false := decide_eq_false c15
                      clear c15
                      have H' := Aside0.mk H
                      clear H
                      go_wp2
                      go_loopg [8] k3 (fun kq v8 w' => ∃ (x8_4 : Int), v8 = .int .i64 x8_4 ∧ Aside0 (culletlaw10_stairs.l2 kq l0 l1 x5_1 (rd l1 x5_1) x8_4 = some r) ∧ Aside0 (kq ≤ k3) ∧ Drawn0 w w')
                      case atStart => exact ⟨(0), (by first | rfl | (simp; done) | (simp [*]; done)), H', ⟨Nat.le_refl _⟩, by repeat (first | exact Drawn0.refl _ | apply Drawn0.step)⟩
                      case round =>
                        clear H'
                        try clear c1
                        try clear p1
                        try clear q1
                        try clear hx1
                        try clear c2
                        try clear p2
                        try clear c3
                        try clear c3b0
                        try clear c4
                        try clear c4b0
                        try clear c6
                        try clear c6b0
                        try clear p6
                        try clear c7
                        try clear c7b0
                        try clear c8
                        try clear c8b0
                        try clear c9
                        try clear c9b0
                        try clear c10
                        try clear c10b0
                        try clear c12
                        try clear c12b0
                        try clear c13
                        try clear c13b0
                        try clear c14
                        try clear p14
                        try clear q14
                        try clear hx14
                        try clear c15
                        try clear c15b0
                        try clear p15
                        try clear q15
                        try clear hx15
                        try clear c16
                        try clear c16b0
                        try clear c17
                        try clear c17b0
                        try clear c18
                        try clear c18b0
                        try clear c19
                        try clear c19b0
                        try clear c20
                        try clear c20b0
                        try clear c20b1
                        try clear hx149_0
                        try clear hx150_0
                        try clear hx151_0
                        try clear hx152_0
                        try clear hx153_0
                        try clear p1
                        try clear p14
                        try clear p149
                        try clear p150
                        try clear p151
                        try clear p152
                        try clear p153
                        try clear p2
                        try clear p6
                        try clear q1
                        try clear q14
                        try clear q149
                        try clear q150
                        try clear q151
                        try clear q152
                        try clear q153
                        obtain ⟨x8_4, rfl, HA, HK4, ⟨m4, rfl⟩⟩ := hrel
                        cases gk with
                        | zero => exact absurd HA.out (by simp [culletlaw10_stairs.l2])
                        | succ k4 =>
                          have H := HA.out
                          clear HA
                          simp only [culletlaw10_stairs.l2] at H
                          by_cases c21 : x8_4 < (l0.length : Int)
                          · rw [if_pos c21] at H
                            have c21b0 : decide (x8_4 < (l0.length : Int)) = true := decide_eq_true c21
                            clear c21
                            by_cases c22 : 0 ≤ x8_4
                            · rw [if_pos c22] at H
                              have c22b0 : decide (0 ≤ x8_4) = true := decide_eq_true c22
                              clear c22
                              by_cases c23 : 0 ≤ (rd l1 x5_1)
                              · rw [if_pos c23] at H
                                have c23b0 : decide (0 ≤ (rd l1 x5_1)) = true := decide_eq_true c23
                                clear c23
                                by_cases c24 : (rd l1 x5_1) < ((rd_L1 l0 x8_4).length : Int)
                                · rw [if_pos c24] at H
                                  have c24b0 : decide ((rd l1 x5_1) < ((rd_L1 l0 x8_4).length : Int)) = true := decide_eq_true c24
                                  clear c24
                                  by_cases c25 : (rd (rd_L1 l0 x8_4) (rd l1 x5_1)) = 0
                                  · rw [if_pos c25] at H
                                    have c25b0 : ((rd (rd_L1 l0 x8_4) (rd l1 x5_1)) == 0) = true := beq_iff_eq.mpr c25
                                    have c25b1 : ((rd (rd_L1 l0 x8_4) (rd l1 x5_1)) != 0) = false := bne_eq_false_iff_eq.mpr c25
                                    clear c25
                                    by_cases c26 : (rd (rd_L1 l0 x8_4) (rd l1 x5_1)) = 1
                                    · rw [if_pos c26] at H
                                      have c26b0 : ((rd (rd_L1 l0 x8_4) (rd l1 x5_1)) == 1) = true := beq_iff_eq.mpr c26
                                      have c26b1 : ((rd (rd_L1 l0 x8_4) (rd l1 x5_1)) != 1) = false := bne_eq_false_iff_eq.mpr c26
                                      clear c26
                                      have H' := Aside0.mk H
                                      clear H
                                      have p154 : 0 ≤ (x8_4 : Int) := of_decide_eq_true (by first | (with_reducible assumption) | assumption)
                                      have q154 : x8_4 < (l0.length : Int) := of_decide_eq_true (by first | (with_reducible assumption) | assumption)
                                      obtain ⟨ad154, A154_0, c154_0, e154, hx154_0, hl154_0, hi154_0⟩ := at_L1 HR0.out x8_4 p154 q154
                                      cases e154
                                      have HR154_0 := Aside0.mk hi154_0
                                      have HC154_0 := Aside0.mk hl154_0
                                      clear hi154_0 hl154_0
                                      replace p154 := eq_true p154
                                      replace q154 := eq_true q154
                                      have p155 : 0 ≤ ((rd l1 x5_1) : Int) := of_decide_eq_true (by first | (with_reducible assumption) | assumption)
                                      have q155 : (rd l1 x5_1) < ((rd_L1 l0 x8_4).length : Int) := of_decide_eq_true (by first | (with_reducible assumption) | assumption)
                                      obtain ⟨ad155, e155, hx155_0⟩ := Kd.at_int HR154_0.out (rd l1 x5_1) p155 q155
                                      cases e155
                                      replace p155 := eq_true p155
                                      replace q155 := eq_true q155
                                      have p156 : 0 ≤ (x8_4 : Int) := of_decide_eq_true (by first | (with_reducible assumption) | assumption)
                                      have q156 : x8_4 < (l0.length : Int) := of_decide_eq_true (by first | (with_reducible assumption) | assumption)
                                      obtain ⟨ad156, A156_0, c156_0, e156, hx156_0, hl156_0, hi156_0⟩ := at_L1 HR0.out x8_4 p156 q156
                                      obtain rfl : ad154 = ad156 := (by injection e156)
                                      have HR156_0 := Aside0.mk hi156_0
                                      have HC156_0 := Aside0.mk hl156_0
                                      clear hi156_0 hl156_0
                                      replace p156 := eq_true p156
                                      replace q156 := eq_true q156
                                      have ea_ := Option.some.inj (hx154_0.symm.trans hx156_0)
                                      injection ea_ with ea_ en_ ec_
                                      subst ea_
                                      subst ec_
                                      clear en_
                                      have p157 : 0 ≤ ((rd l1 x5_1) : Int) := of_decide_eq_true (by first | (with_reducible assumption) | assumption)
                                      have q157 : (rd l1 x5_1) < ((rd_L1 l0 x8_4).length : Int) := of_decide_eq_true (by first | (with_reducible assumption) | assumption)
                                      obtain ⟨ad157, e157, hx157_0⟩ := Kd.at_int HR156_0.out (rd l1 x5_1) p157 q157
                                      cases e157
                                      replace p157 := eq_true p157
                                      replace q157 := eq_true q157
                                      go_wp2
                                      go_roundg k4
                                      case measure => have := HK1.out; have := HJ4.out; have := HK3.out; have := HK4.out; omega
                                      case rel => exact ⟨(wrap64 (x8_4 + 1)), (by first | rfl | (simp; done) | (simp [*]; done)), H', ⟨by have := HK1.out; have := HJ4.out; have := HK3.out; have := HK4.out; omega⟩, by repeat (first | exact Drawn0.refl _ | apply Drawn0.step)⟩
                                    · rw [if_neg c26] at H
                                      have c26b0 : ((rd (rd_L1 l0 x8_4) (rd l1 x5_1)) == 1) = false := beq_eq_false_iff_ne.mpr c26
                                      have c26b1 : ((rd (rd_L1 l0 x8_4) (rd l1 x5_1)) != 1) = true := bne_iff_ne.mpr c26
                                      by_cases c27 : x8_4 = x5_1
                                      · rw [if_pos c27] at H
                                        have c27b0 : (x8_4 == x5_1) = true := beq_iff_eq.mpr c27
                                        have c27b1 : (x8_4 != x5_1) = false := bne_eq_false_iff_eq.mpr c27
                                        clear c27
                                        obtain rfl := Option.some.inj H
                                        have p154 : 0 ≤ (x8_4 : Int) := of_decide_eq_true (by first | (with_reducible assumption) | assumption)
                                        have q154 : x8_4 < (l0.length : Int) := of_decide_eq_true (by first | (with_reducible assumption) | assumption)
                                        obtain ⟨ad154, A154_0, c154_0, e154, hx154_0, hl154_0, hi154_0⟩ := at_L1 HR0.out x8_4 p154 q154
                                        cases e154
                                        have HR154_0 := Aside0.mk hi154_0
                                        have HC154_0 := Aside0.mk hl154_0
                                        clear hi154_0 hl154_0
                                        replace p154 := eq_true p154
                                        replace q154 := eq_true q154
                                        have p155 : 0 ≤ ((rd l1 x5_1) : Int) := of_decide_eq_true (by first | (with_reducible assumption) | assumption)
                                        have q155 : (rd l1 x5_1) < ((rd_L1 l0 x8_4).length : Int) := of_decide_eq_true (by first | (with_reducible assumption) | assumption)
                                        obtain ⟨ad155, e155, hx155_0⟩ := Kd.at_int HR154_0.out (rd l1 x5_1) p155 q155
                                        cases e155
                                        replace p155 := eq_true p155
                                        replace q155 := eq_true q155
                                        have p156 : 0 ≤ (x8_4 : Int) := of_decide_eq_true (by first | (with_reducible assumption) | assumption)
                                        have q156 : x8_4 < (l0.length : Int) := of_decide_eq_true (by first | (with_reducible assumption) | assumption)
                                        obtain ⟨ad156, A156_0, c156_0, e156, hx156_0, hl156_0, hi156_0⟩ := at_L1 HR0.out x8_4 p156 q156
                                        obtain rfl : ad154 = ad156 := (by injection e156)
                                        have HR156_0 := Aside0.mk hi156_0
                                        have HC156_0 := Aside0.mk hl156_0
                                        clear hi156_0 hl156_0
                                        replace p156 := eq_true p156
                                        replace q156 := eq_true q156
                                        have ea_ := Option.some.inj (hx154_0.symm.trans hx156_0)
                                        injection ea_ with ea_ en_ ec_
                                        subst ea_
                                        subst ec_
                                        clear en_
                                        have p157 : 0 ≤ ((rd l1 x5_1) : Int) := of_decide_eq_true (by first | (with_reducible assumption) | assumption)
                                        have q157 : (rd l1 x5_1) < ((rd_L1 l0 x8_4).length : Int) := of_decide_eq_true (by first | (with_reducible assumption) | assumption)
                                        obtain ⟨ad157, e157, hx157_0⟩ := Kd.at_int HR156_0.out (rd l1 x5_1) p157 q157
                                        cases e157
                                        replace p157 := eq_true p157
                                        replace q157 := eq_true q157
                                        go_wp2
                                        go_ret
                                        exact ⟨by first | rfl | (simp; done) | (simp [*]; done), by repeat (first | exact Drawn0.refl _ | apply Drawn0.step)⟩
                                      · rw [if_neg c27] at H
                                        have c27b0 : (x8_4 == x5_1) = false := beq_eq_false_iff_ne.mpr c27
                                        have c27b1 : (x8_4 != x5_1) = true := bne_iff_ne.mpr c27
                                        have H' := Aside0.mk H
                                        clear H
                                        have p154 : 0 ≤ (x8_4 : Int) := of_decide_eq_true (by first | (with_reducible assumption) | assumption)
                                        have q154 : x8_4 < (l0.length : Int) := of_decide_eq_true (by first | (with_reducible assumption) | assumption)
                                        obtain ⟨ad154, A154_0, c154_0, e154, hx154_0, hl154_0, hi154_0⟩ := at_L1 HR0.out x8_4 p154 q154
                                        cases e154
                                        have HR154_0 := Aside0.mk hi154_0
                                        have HC154_0 := Aside0.mk hl154_0
                                        clear hi154_0 hl154_0
                                        replace p154 := eq_true p154
                                        replace q154 := eq_true q154
                                        have p155 : 0 ≤ ((rd l1 x5_1) : Int) := of_decide_eq_true (by first | (with_reducible assumption) | assumption)
                                        have q155 : (rd l1 x5_1) < ((rd_L1 l0 x8_4).length : Int) := of_decide_eq_true (by first | (with_reducible assumption) | assumption)
                                        obtain ⟨ad155, e155, hx155_0⟩ := Kd.at_int HR154_0.out (rd l1 x5_1) p155 q155
                                        cases e155
                                        replace p155 := eq_true p155
                                        replace q155 := eq_true q155
                                        have p156 : 0 ≤ (x8_4 : Int) := of_decide_eq_true (by first | (with_reducible assumption) | assumption)
                                        have q156 : x8_4 < (l0.length : Int) := of_decide_eq_true (by first | (with_reducible assumption) | assumption)
                                        obtain ⟨ad156, A156_0, c156_0, e156, hx156_0, hl156_0, hi156_0⟩ := at_L1 HR0.out x8_4 p156 q156
                                        obtain rfl : ad154 = ad156 := (by injection e156)
                                        have HR156_0 := Aside0.mk hi156_0
                                        have HC156_0 := Aside0.mk hl156_0
                                        clear hi156_0 hl156_0
                                        replace p156 := eq_true p156
                                        replace q156 := eq_true q156
                                        have ea_ := Option.some.inj (hx154_0.symm.trans hx156_0)
                                        injection ea_ with ea_ en_ ec_
                                        subst ea_
                                        subst ec_
                                        clear en_
                                        have p157 : 0 ≤ ((rd l1 x5_1) : Int) := of_decide_eq_true (by first | (with_reducible assumption) | assumption)
                                        have q157 : (rd l1 x5_1) < ((rd_L1 l0 x8_4).length : Int) := of_decide_eq_true (by first | (with_reducible assumption) | assumption)
                                        obtain ⟨ad157, e157, hx157_0⟩ := Kd.at_int HR156_0.out (rd l1 x5_1) p157 q157
                                        cases e157
                                        replace p157 := eq_true p157
                                        replace q157 := eq_true q157
                                        go_wp2
                                        go_roundg k4
                                        case measure => have := HK1.out; have := HJ4.out; have := HK3.out; have := HK4.out; omega
                                        case rel => exact ⟨(wrap64 (x8_4 + 1)), (by first | rfl | (simp; done) | (simp [*]; done)), H', ⟨by have := HK1.out; have := HJ4.out; have := HK3.out; have := HK4.out; omega⟩, by repeat (first | exact Drawn0.refl _ | apply Drawn0.step)⟩
                                  · rw [if_neg c25] at H
                                    have c25b0 : ((rd (rd_L1 l0 x8_4) (rd l1 x5_1)) == 0) = false := beq_eq_false_iff_ne.mpr c25
                                    have c25b1 : ((rd (rd_L1 l0 x8_4) (rd l1 x5_1)) != 0) = true := bne_iff_ne.mpr c25
                                    by_cases c28 : x8_4 = x5_1
                                    · rw [if_pos c28] at H
                                      have c28b0 : (x8_4 == x5_1) = true := beq_iff_eq.mpr c28
                                      have c28b1 : (x8_4 != x5_1) = false := bne_eq_false_iff_eq.mpr c28
                                      clear c28
                                      by_cases c29 : (rd (rd_L1 l0 x8_4) (rd l1 x5_1)) = 1
                                      · rw [if_pos c29] at H
                                        have c29b0 : ((rd (rd_L1 l0 x8_4) (rd l1 x5_1)) == 1) = true := beq_iff_eq.mpr c29
                                        have c29b1 : ((rd (rd_L1 l0 x8_4) (rd l1 x5_1)) != 1) = false := bne_eq_false_iff_eq.mpr c29
                                        clear c29
                                        have H' := Aside0.mk H
                                        clear H
                                        have p154 : 0 ≤ (x8_4 : Int) := of_decide_eq_true (by first | (with_reducible assumption) | assumption)
                                        have q154 : x8_4 < (l0.length : Int) := of_decide_eq_true (by first | (with_reducible assumption) | assumption)
                                        obtain ⟨ad154, A154_0, c154_0, e154, hx154_0, hl154_0, hi154_0⟩ := at_L1 HR0.out x8_4 p154 q154
                                        cases e154
                                        have HR154_0 := Aside0.mk hi154_0
                                        have HC154_0 := Aside0.mk hl154_0
                                        clear hi154_0 hl154_0
                                        replace p154 := eq_true p154
                                        replace q154 := eq_true q154
                                        have p155 : 0 ≤ ((rd l1 x5_1) : Int) := of_decide_eq_true (by first | (with_reducible assumption) | assumption)
                                        have q155 : (rd l1 x5_1) < ((rd_L1 l0 x8_4).length : Int) := of_decide_eq_true (by first | (with_reducible assumption) | assumption)
                                        obtain ⟨ad155, e155, hx155_0⟩ := Kd.at_int HR154_0.out (rd l1 x5_1) p155 q155
                                        cases e155
                                        replace p155 := eq_true p155
                                        replace q155 := eq_true q155
                                        have p158 : 0 ≤ (x8_4 : Int) := of_decide_eq_true (by first | (with_reducible assumption) | assumption)
                                        have q158 : x8_4 < (l0.length : Int) := of_decide_eq_true (by first | (with_reducible assumption) | assumption)
                                        obtain ⟨ad158, A158_0, c158_0, e158, hx158_0, hl158_0, hi158_0⟩ := at_L1 HR0.out x8_4 p158 q158
                                        obtain rfl : ad154 = ad158 := (by injection e158)
                                        have HR158_0 := Aside0.mk hi158_0
                                        have HC158_0 := Aside0.mk hl158_0
                                        clear hi158_0 hl158_0
                                        replace p158 := eq_true p158
                                        replace q158 := eq_true q158
                                        have ea_ := Option.some.inj (hx154_0.symm.trans hx158_0)
                                        injection ea_ with ea_ en_ ec_
                                        subst ea_
                                        subst ec_
                                        clear en_
                                        have p159 : 0 ≤ ((rd l1 x5_1) : Int) := of_decide_eq_true (by first | (with_reducible assumption) | assumption)
                                        have q159 : (rd l1 x5_1) < ((rd_L1 l0 x8_4).length : Int) := of_decide_eq_true (by first | (with_reducible assumption) | assumption)
                                        obtain ⟨ad159, e159, hx159_0⟩ := Kd.at_int HR158_0.out (rd l1 x5_1) p159 q159
                                        cases e159
                                        replace p159 := eq_true p159
                                        replace q159 := eq_true q159
                                        go_wp2
                                        go_roundg k4
                                        case measure => have := HK1.out; have := HJ4.out; have := HK3.out; have := HK4.out; omega
                                        case rel => exact ⟨(wrap64 (x8_4 + 1)), (by first | rfl | (simp; done) | (simp [*]; done)), H', ⟨by have := HK1.out; have := HJ4.out; have := HK3.out; have := HK4.out; omega⟩, by repeat (first | exact Drawn0.refl _ | apply Drawn0.step)⟩
                                      · rw [if_neg c29] at H
                                        have c29b0 : ((rd (rd_L1 l0 x8_4) (rd l1 x5_1)) == 1) = false := beq_eq_false_iff_ne.mpr c29
                                        have c29b1 : ((rd (rd_L1 l0 x8_4) (rd l1 x5_1)) != 1) = true := bne_iff_ne.mpr c29
                                        obtain rfl := Option.some.inj H
                                        have p154 : 0 ≤ (x8_4 : Int) := of_decide_eq_true (by first | (with_reducible assumption) | assumption)
                                        have q154 : x8_4 < (l0.length : Int) := of_decide_eq_true (by first | (with_reducible assumption) | assumption)
                                        obtain ⟨ad154, A154_0, c154_0, e154, hx154_0, hl154_0, hi154_0⟩ := at_L1 HR0.out x8_4 p154 q154
                                        cases e154
                                        have HR154_0 := Aside0.mk hi154_0
                                        have HC154_0 := Aside0.mk hl154_0
                                        clear hi154_0 hl154_0
                                        replace p154 := eq_true p154
                                        replace q154 := eq_true q154
                                        have p155 : 0 ≤ ((rd l1 x5_1) : Int) := of_decide_eq_true (by first | (with_reducible assumption) | assumption)
                                        have q155 : (rd l1 x5_1) < ((rd_L1 l0 x8_4).length : Int) := of_decide_eq_true (by first | (with_reducible assumption) | assumption)
                                        obtain ⟨ad155, e155, hx155_0⟩ := Kd.at_int HR154_0.out (rd l1 x5_1) p155 q155
                                        cases e155
                                        replace p155 := eq_true p155
                                        replace q155 := eq_true q155
                                        have p158 : 0 ≤ (x8_4 : Int) := of_decide_eq_true (by first | (with_reducible assumption) | assumption)
                                        have q158 : x8_4 < (l0.length : Int) := of_decide_eq_true (by first | (with_reducible assumption) | assumption)
                                        obtain ⟨ad158, A158_0, c158_0, e158, hx158_0, hl158_0, hi158_0⟩ := at_L1 HR0.out x8_4 p158 q158
                                        obtain rfl : ad154 = ad158 := (by injection e158)
                                        have HR158_0 := Aside0.mk hi158_0
                                        have HC158_0 := Aside0.mk hl158_0
                                        clear hi158_0 hl158_0
                                        replace p158 := eq_true p158
                                        replace q158 := eq_true q158
                                        have ea_ := Option.some.inj (hx154_0.symm.trans hx158_0)
                                        injection ea_ with ea_ en_ ec_
                                        subst ea_
                                        subst ec_
                                        clear en_
                                        have p159 : 0 ≤ ((rd l1 x5_1) : Int) := of_decide_eq_true (by first | (with_reducible assumption) | assumption)
                                        have q159 : (rd l1 x5_1) < ((rd_L1 l0 x8_4).length : Int) := of_decide_eq_true (by first | (with_reducible assumption) | assumption)
                                        obtain ⟨ad159, e159, hx159_0⟩ := Kd.at_int HR158_0.out (rd l1 x5_1) p159 q159
                                        cases e159
                                        replace p159 := eq_true p159
                                        replace q159 := eq_true q159
                                        go_wp2
                                        go_ret
                                        exact ⟨by first | rfl | (simp; done) | (simp [*]; done), by repeat (first | exact Drawn0.refl _ | apply Drawn0.step)⟩
                                    · rw [if_neg c28] at H
                                      have c28b0 : (x8_4 == x5_1) = false := beq_eq_false_iff_ne.mpr c28
                                      have c28b1 : (x8_4 != x5_1) = true := bne_iff_ne.mpr c28
                                      obtain rfl := Option.some.inj H
                                      have p154 : 0 ≤ (x8_4 : Int) := of_decide_eq_true (by first | (with_reducible assumption) | assumption)
                                      have q154 : x8_4 < (l0.length : Int) := of_decide_eq_true (by first | (with_reducible assumption) | assumption)
                                      obtain ⟨ad154, A154_0, c154_0, e154, hx154_0, hl154_0, hi154_0⟩ := at_L1 HR0.out x8_4 p154 q154
                                      cases e154
                                      have HR154_0 := Aside0.mk hi154_0
                                      have HC154_0 := Aside0.mk hl154_0
                                      clear hi154_0 hl154_0
                                      replace p154 := eq_true p154
                                      replace q154 := eq_true q154
                                      have p155 : 0 ≤ ((rd l1 x5_1) : Int) := of_decide_eq_true (by first | (with_reducible assumption) | assumption)
                                      have q155 : (rd l1 x5_1) < ((rd_L1 l0 x8_4).length : Int) := of_decide_eq_true (by first | (with_reducible assumption) | assumption)
                                      obtain ⟨ad155, e155, hx155_0⟩ := Kd.at_int HR154_0.out (rd l1 x5_1) p155 q155
                                      cases e155
                                      replace p155 := eq_true p155
                                      replace q155 := eq_true q155
                                      go_wp2
                                      go_ret
                                      exact ⟨by first | rfl | (simp; done) | (simp [*]; done), by repeat (first | exact Drawn0.refl _ | apply Drawn0.step)⟩
                                · rw [if_neg c24] at H
                                  exact absurd H (by simp)
                              · rw [if_neg c23] at H
                                exact absurd H (by simp)
                            · rw [if_neg c22] at H
                              exact absurd H (by simp)
                          · rw [if_neg c21] at H
                            have c21b0 : decide (x8_4 < (l0.length : Int)) = false := decide_eq_false c21
                            clear c21
                            have H' := Aside0.mk H
                            clear H
                            go_wp2
                            go_roundg k4
                            case measure => have := HK1.out; have := HJ4.out; have := HK3.out; have := HK4.out; omega
                            case rel => exact ⟨(wrap64 (x5_1 + 1)), (by first | rfl | (simp; done) | (simp [*]; done)), H', ⟨by have := HK1.out; have := HJ4.out; have := HK3.out; have := HK4.out; omega⟩, by repeat (first | exact Drawn0.refl _ | apply Drawn0.step)⟩
        · rw [if_neg c4] at H
          exact absurd H (by simp)
      · rw [if_neg c3] at H
        have c3b0 : decide (x5_1 < (l1.length : Int)) = false := decide_eq_false c3
        clear c3
        have H' := Aside0.mk H
        clear H
        go_wp2
        go_loopg [9] k1 (fun kq v9 w' => ∃ (x9_2 : Int), v9 = .int .i64 x9_2 ∧ Aside0 (culletlaw10_stairs.l3 kq l0 x9_2 = some r) ∧ Aside0 (kq ≤ k1) ∧ Drawn0 w w')
        case atStart => exact ⟨((l1.length : Int)), (by first | rfl | (simp; done) | (simp [*]; done)), H', ⟨Nat.le_refl _⟩, by repeat (first | exact Drawn0.refl _ | apply Drawn0.step)⟩
        case round =>
          clear H'
          try clear c1
          try clear p1
          try clear q1
          try clear hx1
          try clear c2
          try clear p2
          try clear c3
          try clear c3b0
          try clear c4
          try clear c4b0
          try clear c6
          try clear c6b0
          try clear p6
          try clear c7
          try clear c7b0
          try clear c8
          try clear c8b0
          try clear c9
          try clear c9b0
          try clear c10
          try clear c10b0
          try clear c12
          try clear c12b0
          try clear c13
          try clear c13b0
          try clear c14
          try clear p14
          try clear q14
          try clear hx14
          try clear c15
          try clear c15b0
          try clear p15
          try clear q15
          try clear hx15
          try clear c16
          try clear c16b0
          try clear c17
          try clear c17b0
          try clear c18
          try clear c18b0
          try clear c19
          try clear c19b0
          try clear c20
          try clear c20b0
          try clear c20b1
          try clear c21
          try clear c21b0
          try clear c22
          try clear c22b0
          try clear c23
          try clear c23b0
          try clear c24
          try clear c24b0
          try clear c25
          try clear c25b0
          try clear c25b1
          try clear c26
          try clear c26b0
          try clear c26b1
          try clear c27
          try clear c27b0
          try clear c27b1
          try clear c28
          try clear c28b0
          try clear c28b1
          try clear c29
          try clear c29b0
          try clear c29b1
          try clear hx149_0
          try clear hx150_0
          try clear hx151_0
          try clear hx152_0
          try clear hx153_0
          try clear hx154_0
          try clear hx155_0
          try clear hx156_0
          try clear hx157_0
          try clear hx158_0
          try clear hx159_0
          try clear p1
          try clear p14
          try clear p149
          try clear p15
          try clear p150
          try clear p151
          try clear p152
          try clear p153
          try clear p154
          try clear p155
          try clear p156
          try clear p157
          try clear p158
          try clear p159
          try clear p2
          try clear p6
          try clear q1
          try clear q14
          try clear q149
          try clear q15
          try clear q150
          try clear q151
          try clear q152
          try clear q153
          try clear q154
          try clear q155
          try clear q156
          try clear q157
          try clear q158
          try clear q159
          obtain ⟨x9_2, rfl, HA, HK2, ⟨m2, rfl⟩⟩ := hrel
          cases gk with
          | zero => exact absurd HA.out (by simp [culletlaw10_stairs.l3])
          | succ k2 =>
            have H := HA.out
            clear HA
            simp only [culletlaw10_stairs.l3] at H
            by_cases c30 : x9_2 < (l0.length : Int)
            · rw [if_pos c30] at H
              have c30b0 : decide (x9_2 < (l0.length : Int)) = true := decide_eq_true c30
              clear c30
              have H' := Aside0.mk H
              clear H
              go_wp2
              go_loopg [10] k2 (fun kq v10 w' => ∃ (x10_3 : Int), v10 = .int .i64 x10_3 ∧ Aside0 (culletlaw10_stairs.l4 kq l0 x9_2 x10_3 = some r) ∧ Aside0 (kq ≤ k2) ∧ Drawn0 w w')
              case atStart => exact ⟨(0), (by first | rfl | (simp; done) | (simp [*]; done)), H', ⟨Nat.le_refl _⟩, by repeat (first | exact Drawn0.refl _ | apply Drawn0.step)⟩
              case round =>
                clear H'
                try clear c1
                try clear p1
                try clear q1
                try clear hx1
                try clear c2
                try clear p2
                try clear c3
                try clear c3b0
                try clear c4
                try clear c4b0
                try clear c6
                try clear c6b0
                try clear p6
                try clear c7
                try clear c7b0
                try clear c8
                try clear c8b0
                try clear c9
                try clear c9b0
                try clear c10
                try clear c10b0
                try clear c12
                try clear c12b0
                try clear c13
                try clear c13b0
                try clear c14
                try clear p14
                try clear q14
                try clear hx14
                try clear c15
                try clear c15b0
                try clear p15
                try clear q15
                try clear hx15
                try clear c16
                try clear c16b0
                try clear c17
                try clear c17b0
                try clear c18
                try clear c18b0
                try clear c19
                try clear c19b0
                try clear c20
                try clear c20b0
                try clear c20b1
                try clear c21
                try clear c21b0
                try clear c22
                try clear c22b0
                try clear c23
                try clear c23b0
                try clear c24
                try clear c24b0
                try clear c25
                try clear c25b0
                try clear c25b1
                try clear c26
                try clear c26b0
                try clear c26b1
                try clear c27
                try clear c27b0
                try clear c27b1
                try clear c28
                try clear c28b0
                try clear c28b1
                try clear c29
                try clear c29b0
                try clear c29b1
                try clear c30
                try clear c30b0
                try clear hx149_0
                try clear hx150_0
                try clear hx151_0
                try clear hx152_0
                try clear hx153_0
                try clear hx154_0
                try clear hx155_0
                try clear hx156_0
                try clear hx157_0
                try clear hx158_0
                try clear hx159_0
                try clear p1
                try clear p14
                try clear p149
                try clear p15
                try clear p150
                try clear p151
                try clear p152
                try clear p153
                try clear p154
                try clear p155
                try clear p156
                try clear p157
                try clear p158
                try clear p159
                try clear p2
                try clear p6
                try clear q1
                try clear q14
                try clear q149
                try clear q15
                try clear q150
                try clear q151
                try clear q152
                try clear q153
                try clear q154
                try clear q155
                try clear q156
                try clear q157
                try clear q158
                try clear q159
                obtain ⟨x10_3, rfl, HA, HK3, ⟨m3, rfl⟩⟩ := hrel
                cases gk with
                | zero => exact absurd HA.out (by simp [culletlaw10_stairs.l4])
                | succ k3 =>
                  have H := HA.out
                  clear HA
                  simp only [culletlaw10_stairs.l4] at H
                  by_cases c31 : 0 ≤ x9_2
                  · rw [if_pos c31] at H
                    have c31b0 : decide (0 ≤ x9_2) = true := decide_eq_true c31
                    clear c31
                    by_cases c32 : x9_2 < (l0.length : Int)
                    · rw [if_pos c32] at H
                      have c32b0 : decide (x9_2 < (l0.length : Int)) = true := decide_eq_true c32
                      clear c32
                      by_cases c33 : x10_3 < ((rd_L1 l0 x9_2).length : Int)
                      · rw [if_pos c33] at H
                        have c33b0 : decide (x10_3 < ((rd_L1 l0 x9_2).length : Int)) = true := decide_eq_true c33
                        clear c33
                        by_cases c34 : 0 ≤ x10_3
                        · rw [if_pos c34] at H
                          have c34b0 : decide (0 ≤ x10_3) = true := decide_eq_true c34
                          clear c34
                          by_cases c35 : (rd (rd_L1 l0 x9_2) x10_3) = 0
                          · rw [if_pos c35] at H
                            have c35b0 : ((rd (rd_L1 l0 x9_2) x10_3) == 0) = true := beq_iff_eq.mpr c35
                            have c35b1 : ((rd (rd_L1 l0 x9_2) x10_3) != 0) = false := bne_eq_false_iff_eq.mpr c35
                            clear c35
                            have H' := Aside0.mk H
                            clear H
                            have p160 : 0 ≤ (x9_2 : Int) := of_decide_eq_true (by first | (with_reducible assumption) | assumption)
                            have q160 : x9_2 < (l0.length : Int) := of_decide_eq_true (by first | (with_reducible assumption) | assumption)
                            obtain ⟨ad160, A160_0, c160_0, e160, hx160_0, hl160_0, hi160_0⟩ := at_L1 HR0.out x9_2 p160 q160
                            cases e160
                            have HR160_0 := Aside0.mk hi160_0
                            have HC160_0 := Aside0.mk hl160_0
                            clear hi160_0 hl160_0
                            replace p160 := eq_true p160
                            replace q160 := eq_true q160
                            have p161 : 0 ≤ (x9_2 : Int) := of_decide_eq_true (by first | (with_reducible assumption) | assumption)
                            have q161 : x9_2 < (l0.length : Int) := of_decide_eq_true (by first | (with_reducible assumption) | assumption)
                            obtain ⟨ad161, A161_0, c161_0, e161, hx161_0, hl161_0, hi161_0⟩ := at_L1 HR0.out x9_2 p161 q161
                            obtain rfl : ad160 = ad161 := (by injection e161)
                            have HR161_0 := Aside0.mk hi161_0
                            have HC161_0 := Aside0.mk hl161_0
                            clear hi161_0 hl161_0
                            replace p161 := eq_true p161
                            replace q161 := eq_true q161
                            have ea_ := Option.some.inj (hx160_0.symm.trans hx161_0)
                            injection ea_ with ea_ en_ ec_
                            subst ea_
                            subst ec_
                            clear en_
                            have p162 : 0 ≤ (x10_3 : Int) := of_decide_eq_true (by first | (with_reducible assumption) | assumption)
                            have q162 : x10_3 < ((rd_L1 l0 x9_2).length : Int) := of_decide_eq_true (by first | (with_reducible assumption) | assumption)
                            obtain ⟨ad162, e162, hx162_0⟩ := Kd.at_int HR161_0.out x10_3 p162 q162
                            cases e162
                            replace p162 := eq_true p162
                            replace q162 := eq_true q162
                            go_wp2
                            go_roundg k3
                            case measure => have := HK1.out; have := HK2.out; have := HK3.out; omega
                            case rel => exact ⟨(wrap64 (x10_3 + 1)), (by first | rfl | (simp; done) | (simp [*]; done)), H', ⟨by have := HK1.out; have := HK2.out; have := HK3.out; omega⟩, by repeat (first | exact Drawn0.refl _ | apply Drawn0.step)⟩
                          · rw [if_neg c35] at H
                            have c35b0 : ((rd (rd_L1 l0 x9_2) x10_3) == 0) = false := beq_eq_false_iff_ne.mpr c35
                            have c35b1 : ((rd (rd_L1 l0 x9_2) x10_3) != 0) = true := bne_iff_ne.mpr c35
                            obtain rfl := Option.some.inj H
                            have p160 : 0 ≤ (x9_2 : Int) := of_decide_eq_true (by first | (with_reducible assumption) | assumption)
                            have q160 : x9_2 < (l0.length : Int) := of_decide_eq_true (by first | (with_reducible assumption) | assumption)
                            obtain ⟨ad160, A160_0, c160_0, e160, hx160_0, hl160_0, hi160_0⟩ := at_L1 HR0.out x9_2 p160 q160
                            cases e160
                            have HR160_0 := Aside0.mk hi160_0
                            have HC160_0 := Aside0.mk hl160_0
                            clear hi160_0 hl160_0
                            replace p160 := eq_true p160
                            replace q160 := eq_true q160
                            have p161 : 0 ≤ (x9_2 : Int) := of_decide_eq_true (by first | (with_reducible assumption) | assumption)
                            have q161 : x9_2 < (l0.length : Int) := of_decide_eq_true (by first | (with_reducible assumption) | assumption)
                            obtain ⟨ad161, A161_0, c161_0, e161, hx161_0, hl161_0, hi161_0⟩ := at_L1 HR0.out x9_2 p161 q161
                            obtain rfl : ad160 = ad161 := (by injection e161)
                            have HR161_0 := Aside0.mk hi161_0
                            have HC161_0 := Aside0.mk hl161_0
                            clear hi161_0 hl161_0
                            replace p161 := eq_true p161
                            replace q161 := eq_true q161
                            have ea_ := Option.some.inj (hx160_0.symm.trans hx161_0)
                            injection ea_ with ea_ en_ ec_
                            subst ea_
                            subst ec_
                            clear en_
                            have p162 : 0 ≤ (x10_3 : Int) := of_decide_eq_true (by first | (with_reducible assumption) | assumption)
                            have q162 : x10_3 < ((rd_L1 l0 x9_2).length : Int) := of_decide_eq_true (by first | (with_reducible assumption) | assumption)
                            obtain ⟨ad162, e162, hx162_0⟩ := Kd.at_int HR161_0.out x10_3 p162 q162
                            cases e162
                            replace p162 := eq_true p162
                            replace q162 := eq_true q162
                            go_wp2
                            go_ret
                            exact ⟨by first | rfl | (simp; done) | (simp [*]; done), by repeat (first | exact Drawn0.refl _ | apply Drawn0.step)⟩
                        · rw [if_neg c34] at H
                          exact absurd H (by simp)
                      · rw [if_neg c33] at H
                        have c33b0 : decide (x10_3 < ((rd_L1 l0 x9_2).length : Int)) = false := decide_eq_false c33
                        clear c33
                        have H' := Aside0.mk H
                        clear H
                        have p160 : 0 ≤ (x9_2 : Int) := of_decide_eq_true (by first | (with_reducible assumption) | assumption)
                        have q160 : x9_2 < (l0.length : Int) := of_decide_eq_true (by first | (with_reducible assumption) | assumption)
                        obtain ⟨ad160, A160_0, c160_0, e160, hx160_0, hl160_0, hi160_0⟩ := at_L1 HR0.out x9_2 p160 q160
                        cases e160
                        have HR160_0 := Aside0.mk hi160_0
                        have HC160_0 := Aside0.mk hl160_0
                        clear hi160_0 hl160_0
                        replace p160 := eq_true p160
                        replace q160 := eq_true q160
                        go_wp2
                        go_roundg k3
                        case measure => have := HK1.out; have := HK2.out; have := HK3.out; omega
                        case rel => exact ⟨(wrap64 (x9_2 + 1)), (by first | rfl | (simp; done) | (simp [*]; done)), H', ⟨by have := HK1.out; have := HK2.out; have := HK3.out; omega⟩, by repeat (first | exact Drawn0.refl _ | apply Drawn0.step)⟩
                    · rw [if_neg c32] at H
                      exact absurd H (by simp)
                  · rw [if_neg c31] at H
                    exact absurd H (by simp)
            · rw [if_neg c30] at H
              have c30b0 : decide (x9_2 < (l0.length : Int)) = false := decide_eq_false c30
              clear c30
              obtain rfl := Option.some.inj H
              go_wp2
              go_ret
              exact ⟨by first | rfl | (simp; done) | (simp [*]; done), by repeat (first | exact Drawn0.refl _ | apply Drawn0.step)⟩
/-- THE ONE PURE STATEMENT of culletlaw10_stairs. -/
def culletlaw10_stairs.Pure : Prop := ∀ (l0 : List (List Int)) (l1 : List Int), (fun l : List (List Int) => l.length * 24 ≤ 140737488351232 ∧ ∀ x ∈ l, (fun l : List Int => l.length * 1 ≤ 140737488351232 ∧ ∀ x ∈ l, (fun x : Int => (Lit.int .u8 x).wf = true) x) x) l0 → (fun l : List Int => l.length * 8 ≤ 140737488351232 ∧ ∀ x ∈ l, (fun x : Int => (Lit.int .i64 x).wf = true) x) l1 → ∃ k, culletlaw10_stairs.f k l0 l1 = some true
theorem culletlaw10_stairs.walk (P : culletlaw10_stairs.Pure) (w : World) (l0 : List (List Int)) (A0_ : Option Addr) (c0_ : Nat) (l1 : List Int) (A1_ : Option Addr) (c1_ : Nat) (hr0 : Kd.C (Kd.slice 5 (Kd.int .u8)) w A0_ l0.length l0) (hc0 : l0.length ≤ c0_) (hr1 : Kd.C (Kd.int .i64) w A1_ l1.length l1) (hc1 : l1.length ≤ c1_) (w0 : (fun l : List (List Int) => l.length * 24 ≤ 140737488351232 ∧ ∀ x ∈ l, (fun l : List Int => l.length * 1 ≤ 140737488351232 ∧ ∀ x ∈ l, (fun x : Int => (Lit.int .u8 x).wf = true) x) x) l0) (w1 : (fun l : List Int => l.length * 8 ≤ 140737488351232 ∧ ∀ x ∈ l, (fun x : Int => (Lit.int .i64 x).wf = true) x) l1) :
    Calls Try.prog 27 #[.slice A0_ l0.length c0_, .slice A1_ l1.length c1_] w fun e w' => e = .returned (.bool true) ∧ Below w.heap.size w w' := by
  obtain ⟨k, h⟩ := P l0 l1 w0 w1
  refine (culletlaw10_stairs.calls k A0_ c0_ l0 A1_ c1_ l1 true w hr0 hc0 hr1 hc1 h).mono ?_
  rintro e w' ⟨rfl, hd⟩
  exact ⟨rfl, hd.below⟩

end Go.Proofs.Ytidogckochpbgaa.B
