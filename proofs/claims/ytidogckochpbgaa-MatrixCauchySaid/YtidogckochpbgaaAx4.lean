-- Printed for this claim by mp.py, a program of its prover, through the kit's print. Lean checks it.
import Derived.Test.YtidogckochpbgaaAx0
namespace Go.Proofs.Ytidogckochpbgaa.A
open Go.RowKit Go.Proofs.YtidogckochpbgaaW.PrintWords Go.Proofs.YtidogckochpbgaaW.PrintLast Go.Proofs.YtidogckochpbgaaW.PrintMore
attribute [local go_sem] max2_int min2_int max_two min_two max_three min_three max_four min_four   -- for this text's walks alone
set_option linter.unusedVariables false
set_option linter.unusedSimpArgs false

/-! ### culletref10_Check: function 55 -/
mutual
def culletref10_Check.j0 : Nat → List (List Int) → Bool → Option (Int)
  | 0, _, _ => none
  | k + 1, x0, x25 => if x25 = true then (some 100) else (culletref10_Check.l0 k x0 0)
def culletref10_Check.l0 : Nat → List (List Int) → Int → Option (Int)
  | 0, _, _ => none
  | k + 1, x0, x3 => if x3 < (x0.length : Int) then (if 0 ≤ x3 then (if 0 < (x0.length : Int) then (if ((rd_L1 x0 x3).length : Int) = ((rd_L1 x0 0).length : Int) then (culletref10_Check.l0 k x0 (wrap64 (x3 + 1))) else (some 100)) else (none)) else (none)) else (some 0)
end
def culletref10_Check.f (k : Nat) (l0 : List (List Int)) : Option (Int) := if (l0.length : Int) < 1 then (culletref10_Check.j0 k l0 true) else (if (l0.length : Int) > 256 then (culletref10_Check.j0 k l0 true) else (if 0 < (l0.length : Int) then (if ((rd_L1 l0 0).length : Int) < 1 then (culletref10_Check.j0 k l0 true) else (culletref10_Check.j0 k l0 (decide (((rd_L1 l0 0).length : Int) > 512)))) else (none)))
theorem culletref10_Check.mono_l : ∀ k, (∀ y0 y1, LeO (culletref10_Check.j0 k y0 y1) (culletref10_Check.j0 (k + 1) y0 y1)) ∧ (∀ y0 y1, LeO (culletref10_Check.l0 k y0 y1) (culletref10_Check.l0 (k + 1) y0 y1))
  | 0 => ⟨fun _ _ r h => by simp [culletref10_Check.j0] at h, fun _ _ r h => by simp [culletref10_Check.l0] at h⟩
  | k + 1 => by
    obtain ⟨ih0, ih1⟩ := culletref10_Check.mono_l k
    refine ⟨?_, ?_⟩
    · intro y0 y1
      unfold culletref10_Check.j0
      repeat' first
      | (with_reducible exact ih0 _ _)
      | (with_reducible exact ih1 _ _)
      | (with_reducible exact LeO.refl _)
      | (with_reducible exact LeO.none _)
      | (with_reducible refine LeO.ite ?_ ?_)
      | (with_reducible refine LeO.bind ?_ (fun _ => ?_))
      | exact ih0 _ _
      | exact ih1 _ _
      | exact LeO.none _
      | refine LeO.ite ?_ ?_
      | refine LeO.bind ?_ (fun _ => ?_)
    · intro y0 y1
      unfold culletref10_Check.l0
      repeat' first
      | (with_reducible exact ih0 _ _)
      | (with_reducible exact ih1 _ _)
      | (with_reducible exact LeO.refl _)
      | (with_reducible exact LeO.none _)
      | (with_reducible refine LeO.ite ?_ ?_)
      | (with_reducible refine LeO.bind ?_ (fun _ => ?_))
      | exact ih0 _ _
      | exact ih1 _ _
      | exact LeO.none _
      | refine LeO.ite ?_ ?_
      | refine LeO.bind ?_ (fun _ => ?_)
theorem culletref10_Check.mono : ∀ a0 k, LeO (culletref10_Check.f k a0) (culletref10_Check.f (k + 1) a0) := by
  intro a0 k
  obtain ⟨ih0, ih1⟩ := culletref10_Check.mono_l k
  unfold culletref10_Check.f
  repeat' first
      | (with_reducible exact ih0 _ _)
      | (with_reducible exact ih1 _ _)
      | (with_reducible exact LeO.refl _)
      | (with_reducible exact LeO.none _)
      | (with_reducible refine LeO.ite ?_ ?_)
      | (with_reducible refine LeO.bind ?_ (fun _ => ?_))
      | exact ih0 _ _
      | exact ih1 _ _
      | exact LeO.none _
      | refine LeO.ite ?_ ?_
      | refine LeO.bind ?_ (fun _ => ?_)
set_option maxHeartbeats 8000000 in
set_option maxRecDepth 100000 in
theorem culletref10_Check.calls (k : Nat) (A0 : Option Addr) (c0 : Nat) (l0 : List (List Int)) (r : Int) (w : World) (hr0 : Kd.C (Kd.slice 5 (Kd.int .u8)) w A0 l0.length l0) (hc0 : l0.length ≤ c0) (h : culletref10_Check.f k l0 = some r) :
    Calls Try.prog 55 #[.slice A0 l0.length c0] w fun e w' => e = .returned (.int .i64 r) ∧ Drawn0 w w' := by
  have HR0 := Aside0.mk hr0
  have HC0 := Aside0.mk hc0
  clear hr0 hc0
  have H : (if (l0.length : Int) < 1 then (culletref10_Check.j0 k l0 true) else (if (l0.length : Int) > 256 then (culletref10_Check.j0 k l0 true) else (if 0 < (l0.length : Int) then (if ((rd_L1 l0 0).length : Int) < 1 then (culletref10_Check.j0 k l0 true) else (culletref10_Check.j0 k l0 (decide (((rd_L1 l0 0).length : Int) > 512)))) else (none)))) = some r := h
  clear h
  have HC2 := Aside0.mk H
  clear H
  go_enter Try.func55, Try.ntmps55
  go_upto_region 1 with (fail)
  repeat (go_quiet (fail); go_upto_region 1 with (fail))
  go_cut [25] (fun v25 wc => ∃ (kq : Nat) (x25_1 : Bool), v25 = .bool x25_1 ∧ Aside0 (culletref10_Check.j0 kq l0 x25_1 = some r) ∧ Aside0 (kq ≤ k) ∧ Drawn0 w wc)
  case first =>
    have H := HC2.out
    clear HC2
    by_cases c3 : (l0.length : Int) < 1
    · rw [if_pos c3] at H
      have c3b0 : decide ((l0.length : Int) < 1) = true := decide_eq_true c3
      have c3b1 : decide (l0.length < 1) = true := decide_eq_true (by omega)
      clear c3
      (first | rw [c3b0] | (simp only [i64_w, i32_w]; rw [c3b0]) | skip)
      have H' := Aside0.mk H
      clear H
      go_wp2
      repeat (go_quiet (fail); try go_wp2)
      go_meet
      case rel => exact ⟨_, (true), (by first | rfl | (simp; done) | (simp [*]; done)), H', ⟨by first | omega | exact Nat.le_refl _⟩, by repeat (first | exact Drawn0.refl _ | apply Drawn0.step)⟩
    · rw [if_neg c3] at H
      have c3b0 : decide ((l0.length : Int) < 1) = false := decide_eq_false c3
      have c3b1 : decide (l0.length < 1) = false := decide_eq_false (by omega)
      clear c3
      (first | rw [c3b0] | (simp only [i64_w, i32_w]; rw [c3b0]) | skip)
      by_cases c4 : (l0.length : Int) > 256
      · rw [if_pos c4] at H
        have c4b0 : decide (256 < (l0.length : Int)) = true := decide_eq_true c4
        have c4b1 : decide (256 < l0.length) = true := decide_eq_true (by omega)
        clear c4
        have H' := Aside0.mk H
        clear H
        go_wp2
        repeat (go_quiet (fail); try go_wp2)
        go_meet
        case rel => exact ⟨_, (true), (by first | rfl | (simp; done) | (simp [*]; done)), H', ⟨by first | omega | exact Nat.le_refl _⟩, by repeat (first | exact Drawn0.refl _ | apply Drawn0.step)⟩
      · rw [if_neg c4] at H
        have c4b0 : decide (256 < (l0.length : Int)) = false := decide_eq_false c4
        have c4b1 : decide (256 < l0.length) = false := decide_eq_false (by omega)
        clear c4
        by_cases c5 : 0 < (l0.length : Int)
        · rw [if_pos c5] at H
          have c5b0 : decide (0 < (l0.length : Int)) = true := decide_eq_true c5
          have c5b1 : decide (0 < l0.length) = true := decide_eq_true (by omega)
          clear c5
          by_cases c6 : ((rd_L1 l0 0).length : Int) < 1
          · rw [if_pos c6] at H
            have c6b0 : decide (((rd_L1 l0 0).length : Int) < 1) = true := decide_eq_true c6
            have c6b1 : decide ((rd_L1 l0 0).length < 1) = true := decide_eq_true (by omega)
            clear c6
            have H' := Aside0.mk H
            clear H
            have p115 : 0 ≤ (0 : Int) := (by omega)
            have q115 : 0 < (l0.length : Int) := of_decide_eq_true (by first | (with_reducible assumption) | assumption)
            obtain ⟨ad115, A115_0, c115_0, e115, hx115_0, hl115_0, hi115_0⟩ := at_L1 HR0.out 0 p115 q115
            cases e115
            have qi115 : (0 < l0.length) = True := eq_true (by omega)
            (try rw [show ((0 : Int)).toNat = 0 from rfl] at hx115_0)
            (try rw [Addr.add_zero'] at hx115_0)
            have HR115_0 := Aside0.mk hi115_0
            have HC115_0 := Aside0.mk hl115_0
            clear hi115_0 hl115_0
            replace p115 := eq_true p115
            replace q115 := eq_true q115
            go_wp2
            repeat (go_quiet (fail); try go_wp2)
            go_meet
            case rel => exact ⟨_, (true), (by first | rfl | (simp; done) | (simp [*]; done)), H', ⟨by first | omega | exact Nat.le_refl _⟩, by repeat (first | exact Drawn0.refl _ | apply Drawn0.step)⟩
          · rw [if_neg c6] at H
            have c6b0 : decide (((rd_L1 l0 0).length : Int) < 1) = false := decide_eq_false c6
            have c6b1 : decide ((rd_L1 l0 0).length < 1) = false := decide_eq_false (by omega)
            clear c6
            have H' := Aside0.mk H
            clear H
            have p115 : 0 ≤ (0 : Int) := (by omega)
            have q115 : 0 < (l0.length : Int) := of_decide_eq_true (by first | (with_reducible assumption) | assumption)
            obtain ⟨ad115, A115_0, c115_0, e115, hx115_0, hl115_0, hi115_0⟩ := at_L1 HR0.out 0 p115 q115
            cases e115
            have qi115 : (0 < l0.length) = True := eq_true (by omega)
            (try rw [show ((0 : Int)).toNat = 0 from rfl] at hx115_0)
            (try rw [Addr.add_zero'] at hx115_0)
            have HR115_0 := Aside0.mk hi115_0
            have HC115_0 := Aside0.mk hl115_0
            clear hi115_0 hl115_0
            replace p115 := eq_true p115
            replace q115 := eq_true q115
            have p116 : 0 ≤ (0 : Int) := (by omega)
            have q116 : 0 < (l0.length : Int) := of_decide_eq_true (by first | (with_reducible assumption) | assumption)
            obtain ⟨ad116, A116_0, c116_0, e116, hx116_0, hl116_0, hi116_0⟩ := at_L1 HR0.out 0 p116 q116
            obtain rfl : ad115 = ad116 := (by injection e116)
            have qi116 : (0 < l0.length) = True := eq_true (by omega)
            (try rw [show ((0 : Int)).toNat = 0 from rfl] at hx116_0)
            (try rw [Addr.add_zero'] at hx116_0)
            have HR116_0 := Aside0.mk hi116_0
            have HC116_0 := Aside0.mk hl116_0
            clear hi116_0 hl116_0
            replace p116 := eq_true p116
            replace q116 := eq_true q116
            have ea_ := Option.some.inj (hx115_0.symm.trans hx116_0)
            injection ea_ with ea_ en_ ec_
            subst ea_
            subst ec_
            clear en_
            go_wp2
            repeat (go_quiet (fail); try go_wp2)
            go_meet
            case rel => exact ⟨_, (decide (((rd_L1 l0 0).length : Int) > 512)), (by first | rfl | (simp; done) | (simp [*]; done)), H', ⟨by first | omega | exact Nat.le_refl _⟩, by repeat (first | exact Drawn0.refl _ | apply Drawn0.step)⟩
        · rw [if_neg c5] at H
          exact absurd H (by simp)
  case rest =>
    clear HC2
    try clear c1
    try clear p1
    try clear q1
    try clear hx1
    try clear qi1
    try clear p2
    try clear c3
    try clear c3b0
    try clear c3b1
    try clear c4
    try clear c4b0
    try clear c4b1
    try clear c5
    try clear c5b0
    try clear c5b1
    try clear c6
    try clear c6b0
    try clear c6b1
    try clear hx115_0
    try clear hx116_0
    try clear p115
    try clear p116
    try clear q115
    try clear q116
    obtain ⟨kq, x25_1, rfl, HA, HJ1, ⟨mc1, rfl⟩⟩ := hcut
    cases kq with
    | zero => exact absurd HA.out (by simp [culletref10_Check.j0])
    | succ kj1 =>
      have H := HA.out
      clear HA
      simp only [culletref10_Check.j0] at H
      by_cases c7 : x25_1 = true
      · subst c7
        have H1 : (some 100) = some r := by rw [if_pos rfl] at H; exact H
        clear H
        have H := H1
        clear H1
        obtain rfl := Option.some.inj H
        go_wp2
        repeat (go_quiet (fail); try go_wp2)
        go_ret
        exact ⟨by first | rfl | (simp; done) | (simp [*]; done), by repeat (first | exact Drawn0.refl _ | apply Drawn0.step)⟩
      · replace c7 := Bool.eq_false_iff.mpr c7
        subst c7
        have H1 : (culletref10_Check.l0 kj1 l0 0) = some r := by rw [if_neg (show ¬ (false = true) by decide)] at H; exact H
        clear H
        have H := H1
        clear H1
        have H' := Aside0.mk H
        clear H
        go_wp2
        repeat (go_quiet (fail); try go_wp2)
        go_loopg [3] kj1 (fun kq v3 w' => ∃ (x3_2 : Int), v3 = .int .i64 x3_2 ∧ Aside0 (culletref10_Check.l0 kq l0 x3_2 = some r) ∧ Aside0 (kq ≤ kj1) ∧ Drawn0 w w')
        case atStart => exact ⟨(0), (by first | rfl | (simp; done) | (simp [*]; done)), H', ⟨Nat.le_refl _⟩, by repeat (first | exact Drawn0.refl _ | apply Drawn0.step)⟩
        case round =>
          clear H'
          try clear c1
          try clear p1
          try clear q1
          try clear hx1
          try clear qi1
          try clear p2
          try clear c3
          try clear c3b0
          try clear c3b1
          try clear c4
          try clear c4b0
          try clear c4b1
          try clear c5
          try clear c5b0
          try clear c5b1
          try clear c6
          try clear c6b0
          try clear c6b1
          try clear c7
          try clear hx115_0
          try clear hx116_0
          try clear p1
          try clear p115
          try clear p116
          try clear p2
          try clear q1
          try clear q115
          try clear q116
          obtain ⟨x3_2, rfl, HA, HK2, ⟨m2, rfl⟩⟩ := hrel
          cases gk with
          | zero => exact absurd HA.out (by simp [culletref10_Check.l0])
          | succ k2 =>
            have H := HA.out
            clear HA
            simp only [culletref10_Check.l0] at H
            by_cases c8 : x3_2 < (l0.length : Int)
            · rw [if_pos c8] at H
              have c8b0 : decide (x3_2 < (l0.length : Int)) = true := decide_eq_true c8
              clear c8
              by_cases c9 : 0 ≤ x3_2
              · rw [if_pos c9] at H
                have c9b0 : decide (0 ≤ x3_2) = true := decide_eq_true c9
                clear c9
                by_cases c10 : 0 < (l0.length : Int)
                · rw [if_pos c10] at H
                  have c10b0 : decide (0 < (l0.length : Int)) = true := decide_eq_true c10
                  have c10b1 : decide (0 < l0.length) = true := decide_eq_true (by omega)
                  clear c10
                  by_cases c11 : ((rd_L1 l0 x3_2).length : Int) = ((rd_L1 l0 0).length : Int)
                  · rw [if_pos c11] at H
                    have c11b0 : (((rd_L1 l0 x3_2).length : Int) == ((rd_L1 l0 0).length : Int)) = true := beq_iff_eq.mpr c11
                    have c11b1 : (((rd_L1 l0 x3_2).length : Int) != ((rd_L1 l0 0).length : Int)) = false := bne_eq_false_iff_eq.mpr c11
                    have c11b2 : ((rd_L1 l0 x3_2).length == (rd_L1 l0 0).length) = true := by first | simpa using c11 | (simp at c11 ⊢; omega)
                    clear c11
                    have H' := Aside0.mk H
                    clear H
                    have p117 : 0 ≤ (x3_2 : Int) := of_decide_eq_true (by first | (with_reducible assumption) | assumption)
                    have q117 : x3_2 < (l0.length : Int) := of_decide_eq_true (by first | (with_reducible assumption) | assumption)
                    obtain ⟨ad117, A117_0, c117_0, e117, hx117_0, hl117_0, hi117_0⟩ := at_L1 HR0.out x3_2 p117 q117
                    cases e117
                    have HR117_0 := Aside0.mk hi117_0
                    have HC117_0 := Aside0.mk hl117_0
                    clear hi117_0 hl117_0
                    replace p117 := eq_true p117
                    replace q117 := eq_true q117
                    have p118 : 0 ≤ (0 : Int) := (by omega)
                    have q118 : 0 < (l0.length : Int) := of_decide_eq_true (by first | (with_reducible assumption) | assumption)
                    obtain ⟨ad118, A118_0, c118_0, e118, hx118_0, hl118_0, hi118_0⟩ := at_L1 HR0.out 0 p118 q118
                    obtain rfl : ad117 = ad118 := (by injection e118)
                    have qi118 : (0 < l0.length) = True := eq_true (by omega)
                    (try rw [show ((0 : Int)).toNat = 0 from rfl] at hx118_0)
                    (try rw [Addr.add_zero'] at hx118_0)
                    have HR118_0 := Aside0.mk hi118_0
                    have HC118_0 := Aside0.mk hl118_0
                    clear hi118_0 hl118_0
                    replace p118 := eq_true p118
                    replace q118 := eq_true q118
                    go_wp2
                    repeat (go_quiet (fail); try go_wp2)
                    go_roundg k2
                    case measure => have := HJ1.out; have := HK2.out; omega
                    case rel => exact ⟨(wrap64 (x3_2 + 1)), (by first | rfl | (simp; done) | (simp [*]; done)), H', ⟨by have := HJ1.out; have := HK2.out; omega⟩, by repeat (first | exact Drawn0.refl _ | apply Drawn0.step)⟩
                  · rw [if_neg c11] at H
                    have c11b0 : (((rd_L1 l0 x3_2).length : Int) == ((rd_L1 l0 0).length : Int)) = false := beq_eq_false_iff_ne.mpr c11
                    have c11b1 : (((rd_L1 l0 x3_2).length : Int) != ((rd_L1 l0 0).length : Int)) = true := bne_iff_ne.mpr c11
                    have c11b2 : ((rd_L1 l0 x3_2).length == (rd_L1 l0 0).length) = false := by first | simpa using c11 | (simp at c11 ⊢; omega)
                    obtain rfl := Option.some.inj H
                    have p117 : 0 ≤ (x3_2 : Int) := of_decide_eq_true (by first | (with_reducible assumption) | assumption)
                    have q117 : x3_2 < (l0.length : Int) := of_decide_eq_true (by first | (with_reducible assumption) | assumption)
                    obtain ⟨ad117, A117_0, c117_0, e117, hx117_0, hl117_0, hi117_0⟩ := at_L1 HR0.out x3_2 p117 q117
                    cases e117
                    have HR117_0 := Aside0.mk hi117_0
                    have HC117_0 := Aside0.mk hl117_0
                    clear hi117_0 hl117_0
                    replace p117 := eq_true p117
                    replace q117 := eq_true q117
                    have p118 : 0 ≤ (0 : Int) := (by omega)
                    have q118 : 0 < (l0.length : Int) := of_decide_eq_true (by first | (with_reducible assumption) | assumption)
                    obtain ⟨ad118, A118_0, c118_0, e118, hx118_0, hl118_0, hi118_0⟩ := at_L1 HR0.out 0 p118 q118
                    obtain rfl : ad117 = ad118 := (by injection e118)
                    have qi118 : (0 < l0.length) = True := eq_true (by omega)
                    (try rw [show ((0 : Int)).toNat = 0 from rfl] at hx118_0)
                    (try rw [Addr.add_zero'] at hx118_0)
                    have HR118_0 := Aside0.mk hi118_0
                    have HC118_0 := Aside0.mk hl118_0
                    clear hi118_0 hl118_0
                    replace p118 := eq_true p118
                    replace q118 := eq_true q118
                    go_wp2
                    repeat (go_quiet (fail); try go_wp2)
                    go_ret
                    exact ⟨by first | rfl | (simp; done) | (simp [*]; done), by repeat (first | exact Drawn0.refl _ | apply Drawn0.step)⟩
                · rw [if_neg c10] at H
                  exact absurd H (by simp)
              · rw [if_neg c9] at H
                exact absurd H (by simp)
            · rw [if_neg c8] at H
              have c8b0 : decide (x3_2 < (l0.length : Int)) = false := decide_eq_false c8
              clear c8
              obtain rfl := Option.some.inj H
              go_wp2
              repeat (go_quiet (fail); try go_wp2)
              go_ret
              exact ⟨by first | rfl | (simp; done) | (simp [*]; done), by repeat (first | exact Drawn0.refl _ | apply Drawn0.step)⟩

/-! ### culletref10_zeros: function 70 -/
def culletref10_zeros.l0 : Nat → Int → Int → List (List Int) → Int → Option ((List (List Int)))
  | 0, _, _, _, _ => none
  | k + 1, x0, x1, x5, x6 => if x6 < x0 then (if 0 ≤ x1 then (if (x1 : Int).toNat ≤ 281474976710656 then (if 0 ≤ x6 then (if x6 < (x5.length : Int) then (culletref10_zeros.l0 k x0 x1 (x5.set (x6 : Int).toNat (List.replicate (x1 : Int).toNat 0)) (wrap64 (x6 + 1))) else (none)) else (none)) else (none)) else (none)) else (some x5)
def culletref10_zeros.f (k : Nat) (a0 : Int) (a1 : Int) : Option ((List (List Int))) := if 0 ≤ a0 then (if (a0 : Int).toNat ≤ 11728124029610 then (culletref10_zeros.l0 k a0 a1 (List.replicate (a0 : Int).toNat []) 0) else (none)) else (none)
theorem culletref10_zeros.mono_l : ∀ k, (∀ y0 y1 y2 y3, LeO (culletref10_zeros.l0 k y0 y1 y2 y3) (culletref10_zeros.l0 (k + 1) y0 y1 y2 y3))
  | 0 => fun _ _ _ _ r h => by simp [culletref10_zeros.l0] at h
  | k + 1 => by
    have ih0 := culletref10_zeros.mono_l k
    · intro y0 y1 y2 y3
      unfold culletref10_zeros.l0
      repeat' first
      | (with_reducible exact ih0 _ _ _ _)
      | (with_reducible exact LeO.refl _)
      | (with_reducible exact LeO.none _)
      | (with_reducible refine LeO.ite ?_ ?_)
      | (with_reducible refine LeO.bind ?_ (fun _ => ?_))
      | exact ih0 _ _ _ _
      | exact LeO.none _
      | refine LeO.ite ?_ ?_
      | refine LeO.bind ?_ (fun _ => ?_)
theorem culletref10_zeros.mono : ∀ a0 a1 k, LeO (culletref10_zeros.f k a0 a1) (culletref10_zeros.f (k + 1) a0 a1) := by
  intro a0 a1 k
  have ih0 := culletref10_zeros.mono_l k
  unfold culletref10_zeros.f
  repeat' first
      | (with_reducible exact ih0 _ _ _ _)
      | (with_reducible exact LeO.refl _)
      | (with_reducible exact LeO.none _)
      | (with_reducible refine LeO.ite ?_ ?_)
      | (with_reducible refine LeO.bind ?_ (fun _ => ?_))
      | exact ih0 _ _ _ _
      | exact LeO.none _
      | refine LeO.ite ?_ ?_
      | refine LeO.bind ?_ (fun _ => ?_)
set_option maxHeartbeats 8000000 in
set_option maxRecDepth 100000 in
theorem culletref10_zeros.calls (k : Nat) (a0 : Int) (a1 : Int) (r : List (List Int)) (w : World) (h : culletref10_zeros.f k a0 a1 = some r) :
    Calls Try.prog 70 #[.int .i64 a0, .int .i64 a1] w fun e w' => ∃ v0_ : Value, e = .returned (v0_) ∧ Kd.S (Kd.slice 5 (Kd.int .u8)) 31 w' w.heap.size (fun _ => True) v0_ r ∧ Below w.heap.size w w' := by
  have HB := Aside0.mk (Below.refl w.heap.size w)
  have H : (if 0 ≤ a0 then (if (a0 : Int).toNat ≤ 11728124029610 then (culletref10_zeros.l0 k a0 a1 (List.replicate (a0 : Int).toNat []) 0) else (none)) else (none)) = some r := h
  clear h
  by_cases c3 : 0 ≤ a0
  · rw [if_pos c3] at H
    have c3b0 := eq_true c3
    have c3b1 : decide (0 ≤ a0) = true := decide_eq_true c3
    clear c3
    by_cases c4 : (a0 : Int).toNat ≤ 11728124029610
    · rw [if_pos c4] at H
      have c4b0 := eq_true c4
      have c4b1 : decide ((a0 : Int).toNat ≤ 11728124029610) = true := decide_eq_true c4
      clear c4
      obtain ⟨y119, hy119⟩ : ∃ y_ : List (List Int), y_ = (List.replicate (a0 : Int).toNat []) := ⟨_, rfl⟩
      replace H : (culletref10_zeros.l0 k a0 a1 y119 0) = some r := by first | (rw [hy119]; with_reducible exact H) | (have H2_ := (Option.bind_some _ _).symm.trans H; rw [hy119]; with_reducible exact H2_) | (have H2_ := (Option.bind_some _ _).symm.trans H; with_reducible exact H2_) | with_reducible exact H | (rw [hy119]; exact H) | exact H
      have Ny119 := Aside0.mk hy119
      clear hy119
      have H' := Aside0.mk H
      clear H
      go_enter Try.func70, Try.ntmps70
      go_wp2_with (first | ((with_reducible refine gate_dst (N := 8) rfl ?_); refine Kd.S_make (Kd.slice 5 (Kd.int .u8)) _ 31 rfl (N := 8) rfl 22 _ _ rfl a0 rfl rfl Try.underlying22 (.slice none 0 0) 24 info31 rfl (by decide) (by omega) [] (ok := fun _ => True) (okp := fun _ => True) ⟨_, rfl, Kd.R_nil _ _ _ _ _⟩ (fun _ hk => hk) trivial (of_decide_eq_true (by first | (with_reducible assumption) | assumption)) (Nat.le_trans (Nat.mul_le_mul_right _ (of_decide_eq_true (by first | (with_reducible assumption) | assumption) : a0.toNat ≤ 11728124029610)) (by omega)) (Below.refl _ _) (Nat.le_refl _) ?_; intro v120 w5 ho6 hb hg_ hnew_; clear hg_ hnew_; (first | rw [← Ny119.out] at ho6 | (simp only [Int.reduceToNat] at ho6; rw [← Ny119.out] at ho6)); have n0_ := Aside0.mk (Kd.S_lower ho6 (below_size (by repeat (first | (with_reducible first | exact HB.out | apply below_alloc | apply pw_below_drewN | apply below_drew1) | exact HB.out)))); have n1_ := Aside0.mk (below_step (by repeat (first | (with_reducible first | exact HB.out | apply below_alloc | apply pw_below_drewN | apply below_drew1) | exact HB.out)) hb); clear HB; have HO121 := n0_; have HB := n1_; clear n0_ n1_; clear hb ho6))
      go_loopg [6] k (fun kq v6 w' => ∃ (x5_1 : List (List Int)) (x6_1 : Int), v6 = .int .i64 x6_1 ∧ Aside0 (culletref10_zeros.l0 kq a0 a1 x5_1 x6_1 = some r) ∧ Aside0 (kq ≤ k) ∧ Aside0 (Kd.S (Kd.slice 5 (Kd.int .u8)) 31 w' w.heap.size (fun _ => True) v120 x5_1) ∧ Aside0 (Below w.heap.size w w'))
      case atStart => exact ⟨(y119), (0), (by first | rfl | (simp; done) | (simp [*]; done)), H', ⟨Nat.le_refl _⟩, ⟨by (with_reducible repeat (first | apply Kd.S_alloc | apply Kd.S_drewN | apply Kd.S_drew)); exact HO121.out⟩, ⟨by repeat (first | (with_reducible first | exact HB.out | apply below_alloc | apply pw_below_drewN | apply below_drew1) | exact HB.out)⟩⟩
      case round =>
        clear H'
        try clear p2
        try clear c3
        try clear c3b0
        try clear c3b1
        try clear c4
        try clear c4b0
        try clear c4b1
        obtain ⟨x5_1, x6_1, rfl, HA, HK1, HO_5, HB⟩ := hrel
        cases gk with
        | zero => exact absurd HA.out (by simp [culletref10_zeros.l0])
        | succ k1 =>
          have H := HA.out
          clear HA
          simp only [culletref10_zeros.l0] at H
          by_cases c7 : x6_1 < a0
          · rw [if_pos c7] at H
            have c7b0 : decide (x6_1 < a0) = true := decide_eq_true c7
            clear c7
            by_cases c8 : 0 ≤ a1
            · rw [if_pos c8] at H
              have c8b0 := eq_true c8
              have c8b1 : decide (0 ≤ a1) = true := decide_eq_true c8
              clear c8
              by_cases c9 : (a1 : Int).toNat ≤ 281474976710656
              · rw [if_pos c9] at H
                have c9b0 := eq_true c9
                have c9b1 : decide ((a1 : Int).toNat ≤ 281474976710656) = true := decide_eq_true c9
                clear c9
                obtain ⟨y122, hy122⟩ : ∃ y_ : List Int, y_ = (List.replicate (a1 : Int).toNat 0) := ⟨_, rfl⟩
                replace H : (if 0 ≤ x6_1 then (if x6_1 < (x5_1.length : Int) then (culletref10_zeros.l0 k1 a0 a1 (x5_1.set (x6_1 : Int).toNat y122) (wrap64 (x6_1 + 1))) else (none)) else (none)) = some r := by first | (rw [hy122]; with_reducible exact H) | (have H2_ := (Option.bind_some _ _).symm.trans H; rw [hy122]; with_reducible exact H2_) | (have H2_ := (Option.bind_some _ _).symm.trans H; with_reducible exact H2_) | with_reducible exact H | (rw [hy122]; exact H) | exact H
                have Ny122 := Aside0.mk hy122
                clear hy122
                by_cases c10 : 0 ≤ x6_1
                · rw [if_pos c10] at H
                  have c10b0 : decide (0 ≤ x6_1) = true := decide_eq_true c10
                  clear c10
                  by_cases c11 : x6_1 < (x5_1.length : Int)
                  · rw [if_pos c11] at H
                    have c11b0 : decide (x6_1 < (x5_1.length : Int)) = true := decide_eq_true c11
                    clear c11
                    obtain ⟨y125, hy125⟩ : ∃ y_ : List (List Int), y_ = (x5_1.set (x6_1 : Int).toNat y122) := ⟨_, rfl⟩
                    replace H : (culletref10_zeros.l0 k1 a0 a1 y125 (wrap64 (x6_1 + 1))) = some r := by first | (rw [hy125]; with_reducible exact H) | (have H2_ := (Option.bind_some _ _).symm.trans H; rw [hy125]; with_reducible exact H2_) | (have H2_ := (Option.bind_some _ _).symm.trans H; with_reducible exact H2_) | with_reducible exact H | (rw [hy125]; exact H) | exact H
                    have Ny125 := Aside0.mk hy125
                    clear hy125
                    have H' := Aside0.mk H
                    clear H
                    go_wp2_with (first | ((with_reducible refine gate_dst (N := 17) rfl ?_); refine Kd.R_make (Kd.int .u8) _ 5 rfl (N := 17) rfl 31 _ _ rfl a1 rfl rfl Try.underlying31 (.int .u8 0) 1 info5 rfl (by decide) (by omega) 0 (ok := fun _ => True) (okp := fun _ => True) rfl (fun _ hk => hk) trivial (of_decide_eq_true (by first | (with_reducible assumption) | assumption)) (Nat.le_trans (Nat.mul_le_mul_right _ (of_decide_eq_true (by first | (with_reducible assumption) | assumption) : a1.toNat ≤ 281474976710656)) (by omega)) (Below.refl _ _) (Nat.le_refl _) ?_; intro v123 w13 ho14 hb hg_ hnew_; clear hg_ hnew_; (first | rw [← Ny122.out] at ho14 | (simp only [Int.reduceToNat] at ho14; rw [← Ny122.out] at ho14)); have n0_ := Aside0.mk (Kd.S_elder' (by (with_reducible repeat (first | apply Kd.S_alloc | apply Kd.S_drewN | apply Kd.S_drew)); exact HO_5.out) (Kd.R_base ho14) hb); have n1_ := Aside0.mk (Kd.R_lower ho14 (below_size (by repeat (first | (with_reducible first | exact HB.out | apply below_alloc | apply pw_below_drewN | apply below_drew1) | exact HB.out)))); have n2_ := Aside0.mk (below_step (by repeat (first | (with_reducible first | exact HB.out | apply below_alloc | apply pw_below_drewN | apply below_drew1) | exact HB.out)) hb); clear HO_5; clear HB; have HO_5 := n0_; have HO124 := n1_; have HB := n2_; clear n0_ n1_ n2_; clear hb ho14; have p12 : 0 ≤ (x6_1 : Int) := of_decide_eq_true (by first | (with_reducible assumption) | assumption); have q12 : (x6_1 : Int) < ((x5_1.length : Int) : Int) := of_decide_eq_true (by first | (with_reducible assumption) | assumption); obtain ⟨go12, co12, eo12, gb12, gl12, cl12, HG12⟩ := Kd.S_form HO_5.out (by omega); (first | cases eo12 | (injection eo12 with ea_ en_ ec_; (first | subst ea_ | (injection ea_ with ea_; subst ea_)); subst ec_; clear en_)); have GB12 := Aside0.mk gb12; have GG12 := Aside0.mk HG12; clear gb12 gl12 HG12; obtain ⟨_, ce12, hcl12, hM12, hcc12, hfr12, _, _⟩ := Kd.S_elem HO_5.out [] (x6_1 : Int) p12 q12; obtain ⟨ve12_0, rfl, ge12_0⟩ := hM12; have hx12_0 := hcc12 0 _ rfl; have hf12_0 := hfr12 0; (try simp only [show ((Kd.slice 5 (Kd.int .u8))).sz = 1 from rfl, Nat.mul_one, Nat.add_zero] at hx12_0); (try simp only [show ((Kd.slice 5 (Kd.int .u8))).sz = 1 from rfl, Nat.mul_one, Nat.add_zero] at hf12_0); (try clear hM12); clear hcl12 hcc12 hfr12; replace p12 := eq_true p12; replace q12 := eq_true q12; obtain ⟨Ao17, co17, eo17⟩ := Kd.R_slice HO124.out; subst eo17; have n_ := Aside0.mk (Kd.S_mono (ok' := (fun k_ => some k_ ≠ (.slice Ao17 y122.length co17 : Value).ownBlock)) HO_5.out (fun k_ hk => hk.2)); clear HO_5; have HO_5 := n_; clear n_; have HX15 := Aside0.mk (show Kd.S (Kd.slice 5 (Kd.int .u8)) 31 w13 w.heap.size (fun k_ => ((fun _ => True)) k_ ∧ ¬ ((fun k_ => some k_ = (.slice Ao17 y122.length co17 : Value).ownBlock)) k_) (.slice (some ⟨go12, 0, none⟩) x5_1.length co12) x5_1 from (by (with_reducible repeat (first | apply Kd.S_alloc | apply Kd.S_drewN | apply Kd.S_drew)); exact Kd.S_mono HO_5.out (fun k_ hk => ⟨trivial, fun e_ => hk e_⟩))); obtain ⟨oki15, ce15, hcl15, hM15, hcc15, hfr15, hoki15, hH15⟩ := Kd.S_elem HX15.out [] (x6_1 : Int) (of_decide_eq_true (by first | (with_reducible assumption) | assumption)) (by have h_ : (x6_1 : Int) < ((x5_1.length : Int) : Int) := of_decide_eq_true (by first | (with_reducible assumption) | assumption); first | exact h_ | (have e_ := (Kd.S_reads' HO_5.out).1; omega) | simpa using h_); obtain ⟨ve15_0, rfl, ge15_0⟩ := hM15; have HP15 := Kd.S_seg hH15 (of_decide_eq_true (by first | (with_reducible assumption) | assumption)) (by have h_ : (x6_1 : Int) < ((x5_1.length : Int) : Int) := of_decide_eq_true (by first | (with_reducible assumption) | assumption); first | exact h_ | (have e_ := (Kd.S_reads' HO_5.out).1; omega) | simpa using h_) (seg := [.slice Ao17 y122.length co17]) (j := 0) (show 1 ≤ 1 from by decide) (x' := y122) (Kd.M_row (Kd.R_mono (Kd.R_tight rfl (Kd.R_mono (ok' := fun k_ => ((fun _ => True)) k_ ∧ k_ ≠ go12) (Kd.R_apart' (HO124.out) (Kd.S_typed HO_5.out) (by decide)) (fun k_ hk => ⟨trivial, fun e_ => (hk.2) (by rw [e_]; rfl)⟩))) (fun _ h_ => Or.inr (h_)))) (fun _ hk => hk) (fun k_ hk_ => ((Kd.R_mono (ok' := fun k_ => ((fun _ => True)) k_ ∧ k_ ≠ go12) (Kd.R_apart' (HO124.out) (Kd.S_typed HO_5.out) (by decide)) (fun k_ hk => ⟨trivial, fun e_ => (hk.2) (by rw [e_]; rfl)⟩))).1 k_ hk_.symm); have hx15_0 := hcc15 0 _ rfl; (try simp only [show ((Kd.slice 5 (Kd.int .u8))).sz = 1 from rfl, Nat.mul_one, Nat.add_zero] at hx15_0); have hf15_0 := hfr15 0; (try simp only [show ((Kd.slice 5 (Kd.int .u8))).sz = 1 from rfl, Nat.mul_one, Nat.add_zero] at hf15_0); (try clear hM15); clear hcl15 hcc15 hfr15 hoki15 hH15; (try simp only [show ((Kd.slice 5 (Kd.int .u8))).sz = 1 from rfl, Nat.mul_one, Nat.add_zero] at HP15)) | ((with_reducible refine gate_store (t := 31) (p := 18) rfl ?_); refine store_event (t := 31) (p := 18) (v := ?vo_w16) (w1 := (w13.setCell ⟨go12, (x6_1 : Int).toNat, none⟩ (.slice Ao17 y122.length co17))) ?hg ?ho ?hn ?hr ?_; (case ho => rfl); (case hg => rfl); (case hn => rfl); (case hr => first | (go_simp; done) | (go_simp; rfl)); intro w16 hw; have hg : w13.grownBy w16 (some go12) := (by rw [hw]; exact HP15.2); have hp_ : Kd.S (Kd.slice 5 (Kd.int .u8)) 31 w16 w.heap.size (fun _ => True) (.slice (some ⟨go12, 0, none⟩) x5_1.length co12) y125 := (by rw [hw, Ny125.out]; exact HP15.1); clear HP15; have n0_ := Aside0.mk (hp_); have n1_ := Aside0.mk ((by rw [hw]; exact below_set (HB.out) GB12.out : Below w.heap.size w w16)); clear HO_5; clear HB; clear HO124; have HO_5 := n0_; have HB := n1_; clear n0_ n1_; clear hg hw hp_))
                    go_roundg k1
                    case measure => have := HK1.out; omega
                    case rel => exact ⟨(y125), (wrap64 (x6_1 + 1)), (by first | rfl | (simp; done) | (simp [*]; done)), H', ⟨by have := HK1.out; omega⟩, ⟨by (with_reducible repeat (first | apply Kd.S_alloc | apply Kd.S_drewN | apply Kd.S_drew)); exact HO_5.out⟩, ⟨by repeat (first | (with_reducible first | exact HB.out | apply below_alloc | apply pw_below_drewN | apply below_drew1) | exact HB.out)⟩⟩
                  · rw [if_neg c11] at H
                    exact absurd H (by simp)
                · rw [if_neg c10] at H
                  exact absurd H (by simp)
              · rw [if_neg c9] at H
                exact absurd H (by simp)
            · rw [if_neg c8] at H
              exact absurd H (by simp)
          · rw [if_neg c7] at H
            have c7b0 : decide (x6_1 < a0) = false := decide_eq_false c7
            clear c7
            obtain rfl := Option.some.inj H
            go_wp2
            go_ret
            exact ⟨_, by first | rfl | (simp [errW_none, errW_some] <;> rfl) | (simp [*, errW_none, errW_some] <;> rfl), by (with_reducible repeat (first | apply Kd.S_alloc | apply Kd.S_drewN | apply Kd.S_drew)); exact HO_5.out, by repeat (first | (with_reducible first | exact HB.out | apply below_alloc | apply pw_below_drewN | apply below_drew1) | exact HB.out)⟩
    · rw [if_neg c4] at H
      exact absurd H (by simp)
  · rw [if_neg c3] at H
    exact absurd H (by simp)

-- NOT PRINTED: function 76 (culletref10_less)

end Go.Proofs.Ytidogckochpbgaa.A
