-- Printed for this claim by mp.py, a program of its prover, through the kit's print. Lean checks it.
import Derived.Test.YtidogckochpbgaaBx0
namespace Go.Proofs.Ytidogckochpbgaa.B
open Go.RowKit Go.Proofs.YtidogckochpbgaaW.PrintWords Go.Proofs.YtidogckochpbgaaW.PrintLast Go.Proofs.YtidogckochpbgaaW.PrintMore Go.Proofs.Ytidogckochpbgaa.A
attribute [local go_sem] max2_int min2_int max_two min_two max_three min_three max_four min_four   -- for this text's walks alone
set_option linter.unusedVariables false
set_option linter.unusedSimpArgs false

/-! ### matrix_Rank: function 26 -/
def matrix_Rank.f (l0 : List (List Int)) : Option (Int × Int) := (matrix_Reduce.f l0).bind fun bt129 => (some ((bt129.2.1.length : Int), bt129.2.2))
set_option maxHeartbeats 8000000 in
set_option maxRecDepth 100000 in
theorem matrix_Rank.calls (A0 : Option Addr) (c0 : Nat) (l0 : List (List Int)) (r1 : Int) (r2 : Int) (w : World) (hr0 : Kd.C (Kd.slice 5 (Kd.int .u8)) w A0 l0.length l0) (hc0 : l0.length ≤ c0) (h : matrix_Rank.f l0 = some (r1, r2)) :
    Calls Try.prog 26 #[.slice A0 l0.length c0] w fun e w' => e = .returned (.tuple #[.int .i64 r1, .int .i64 r2]) ∧ Below w.heap.size w w' := by
  have HR0 := Aside0.mk hr0
  have HC0 := Aside0.mk hc0
  clear hr0 hc0
  have HB := Aside0.mk (Below.refl w.heap.size w)
  have H : ((matrix_Reduce.f l0).bind fun bt129 => (some ((bt129.2.1.length : Int), bt129.2.2))) = some (r1, r2) := h
  clear h
  replace H := Option.bind_eq_some_iff.mp H
  obtain ⟨⟨t129, t130, t131⟩, A20, H⟩ := H
  replace H : (some ((t130.length : Int), t131)) = some (r1, r2) := H
  have A2 := Aside0.mk A20
  clear A20
  simp only [Option.some.injEq, Prod.mk.injEq] at H
  obtain ⟨rfl, rfl⟩ := H
  go_enter Try.func26, Try.ntmps26
  go_wp2_with (first | ((with_reducible refine gate_callee (f := 23) rfl ?_); refine goesL_ (some 9) rfl rfl Try.func23 (by kernel_rfl) rfl #[.slice A0 l0.length c0] rfl (by (try simp only [List.map_toArray, List.map_cons, List.map_nil]); first | done | rfl | (simp only [tb_wrap8]; done) | (simp only [tb_wrap8]; rfl) | (simp only [List.length_drop, List.length_take]; rfl)) ?_; (with_reducible refine (matrix_Reduce.calls _ _ l0 t129 t130 t131 _ ?side1 ?side2 A2.out).mono ?_); (case side1 => repeat (first | exact HR0.out | (with_reducible refine Kd.C_alloc ?_ _) | (with_reducible refine Kd.C_drewN ?_ _) | (with_reducible refine Kd.C_drew ?_))); (case side2 => exact HC0.out); rintro e w3 ⟨v132, v134, rfl, ho0, ho1, hb⟩; refine ⟨_, rfl, ?_⟩; have n0_ := Aside0.mk (Kd.S_lower ho0 (below_size (by repeat (first | (with_reducible first | exact HB.out | apply below_alloc | apply pw_below_drewN | apply below_drew1) | exact HB.out)))); have n1_ := Aside0.mk (Kd.R_lower ho1 (below_size (by repeat (first | (with_reducible first | exact HB.out | apply below_alloc | apply pw_below_drewN | apply below_drew1) | exact HB.out)))); have n2_ := Aside0.mk (below_step (by repeat (first | (with_reducible first | exact HB.out | apply below_alloc | apply pw_below_drewN | apply below_drew1) | exact HB.out)) hb); clear HB; have HO133 := n0_; have HO135 := n1_; have HB := n2_; clear n0_ n1_ n2_; (try clear hb); (try clear hb2); (try clear hk); (try clear hi); (try clear ho0); (try clear ho1); obtain ⟨Ao4, co4, eo4⟩ := Kd.R_slice HO135.out; subst eo4))
  go_ret2
  exact ⟨by first | rfl | (simp [errW_none, errW_some] <;> rfl) | (simp [*, errW_none, errW_some] <;> rfl), by repeat (first | (with_reducible first | exact HB.out | apply below_alloc | apply pw_below_drewN | apply below_drew1) | exact HB.out)⟩

/-! ### culletlaw10_side: function 19 -/
mutual
def culletlaw10_side.j0 : Nat → List (List Int) → Bool → Option (Int)
  | 0, _, _ => none
  | k + 1, x0, x25 => if x25 = true then (some 0) else (culletlaw10_side.l0 k x0 0)
def culletlaw10_side.l0 : Nat → List (List Int) → Int → Option (Int)
  | 0, _, _ => none
  | k + 1, x0, x3 => if x3 < (x0.length : Int) then (if 0 ≤ x3 then (if 0 < (x0.length : Int) then (if ((rd_L1 x0 x3).length : Int) = ((rd_L1 x0 0).length : Int) then (culletlaw10_side.l0 k x0 (wrap64 (x3 + 1))) else (some 0)) else (none)) else (none)) else (some (x0.length : Int))
end
def culletlaw10_side.f (k : Nat) (l0 : List (List Int)) : Option (Int) := if (l0.length : Int) < 1 then (culletlaw10_side.j0 k l0 true) else (if (l0.length : Int) > 256 then (culletlaw10_side.j0 k l0 true) else (if 0 < (l0.length : Int) then (if ((rd_L1 l0 0).length : Int) < 1 then (culletlaw10_side.j0 k l0 true) else (culletlaw10_side.j0 k l0 (decide (((rd_L1 l0 0).length : Int) > 512)))) else (none)))
theorem culletlaw10_side.mono_l : ∀ k, (∀ y0 y1, LeO (culletlaw10_side.j0 k y0 y1) (culletlaw10_side.j0 (k + 1) y0 y1)) ∧ (∀ y0 y1, LeO (culletlaw10_side.l0 k y0 y1) (culletlaw10_side.l0 (k + 1) y0 y1))
  | 0 => ⟨fun _ _ r h => by simp [culletlaw10_side.j0] at h, fun _ _ r h => by simp [culletlaw10_side.l0] at h⟩
  | k + 1 => by
    obtain ⟨ih0, ih1⟩ := culletlaw10_side.mono_l k
    refine ⟨?_, ?_⟩
    · intro y0 y1
      unfold culletlaw10_side.j0
      repeat' first
      | (with_reducible exact ih0 _ _)
      | (with_reducible exact ih1 _ _)
      | (with_reducible exact LeO.refl _)
      | (with_reducible exact LeO.none _)
      | (with_reducible refine LeO.ite ?_ ?_)
      | (with_reducible refine LeO.bind ?_ (fun _ => ?_))
      | exact ih0 _ _
      | exact ih1 _ _
      | exact LeO.none _
      | refine LeO.ite ?_ ?_
      | refine LeO.bind ?_ (fun _ => ?_)
    · intro y0 y1
      unfold culletlaw10_side.l0
      repeat' first
      | (with_reducible exact ih0 _ _)
      | (with_reducible exact ih1 _ _)
      | (with_reducible exact LeO.refl _)
      | (with_reducible exact LeO.none _)
      | (with_reducible refine LeO.ite ?_ ?_)
      | (with_reducible refine LeO.bind ?_ (fun _ => ?_))
      | exact ih0 _ _
      | exact ih1 _ _
      | exact LeO.none _
      | refine LeO.ite ?_ ?_
      | refine LeO.bind ?_ (fun _ => ?_)
theorem culletlaw10_side.mono : ∀ a0 k, LeO (culletlaw10_side.f k a0) (culletlaw10_side.f (k + 1) a0) := by
  intro a0 k
  obtain ⟨ih0, ih1⟩ := culletlaw10_side.mono_l k
  unfold culletlaw10_side.f
  repeat' first
      | (with_reducible exact ih0 _ _)
      | (with_reducible exact ih1 _ _)
      | (with_reducible exact LeO.refl _)
      | (with_reducible exact LeO.none _)
      | (with_reducible refine LeO.ite ?_ ?_)
      | (with_reducible refine LeO.bind ?_ (fun _ => ?_))
      | exact ih0 _ _
      | exact ih1 _ _
      | exact LeO.none _
      | refine LeO.ite ?_ ?_
      | refine LeO.bind ?_ (fun _ => ?_)
set_option maxHeartbeats 8000000 in
set_option maxRecDepth 100000 in
theorem culletlaw10_side.calls (k : Nat) (A0 : Option Addr) (c0 : Nat) (l0 : List (List Int)) (r : Int) (w : World) (hr0 : Kd.C (Kd.slice 5 (Kd.int .u8)) w A0 l0.length l0) (hc0 : l0.length ≤ c0) (h : culletlaw10_side.f k l0 = some r) :
    Calls Try.prog 19 #[.slice A0 l0.length c0] w fun e w' => e = .returned (.int .i64 r) ∧ Drawn0 w w' := by
  have HR0 := Aside0.mk hr0
  have HC0 := Aside0.mk hc0
  clear hr0 hc0
  have H : (if (l0.length : Int) < 1 then (culletlaw10_side.j0 k l0 true) else (if (l0.length : Int) > 256 then (culletlaw10_side.j0 k l0 true) else (if 0 < (l0.length : Int) then (if ((rd_L1 l0 0).length : Int) < 1 then (culletlaw10_side.j0 k l0 true) else (culletlaw10_side.j0 k l0 (decide (((rd_L1 l0 0).length : Int) > 512)))) else (none)))) = some r := h
  clear h
  have HC2 := Aside0.mk H
  clear H
  go_enter Try.func19, Try.ntmps19
  go_upto_region 1 with (fail)
  repeat (go_quiet (fail); go_upto_region 1 with (fail))
  go_cut [25] (fun v25 wc => ∃ (kq : Nat) (x25_1 : Bool), v25 = .bool x25_1 ∧ Aside0 (culletlaw10_side.j0 kq l0 x25_1 = some r) ∧ Aside0 (kq ≤ k) ∧ Drawn0 w wc)
  case first =>
    have H := HC2.out
    clear HC2
    by_cases c3 : (l0.length : Int) < 1
    · rw [if_pos c3] at H
      have c3b0 : decide ((l0.length : Int) < 1) = true := decide_eq_true c3
      have c3b1 : decide (l0.length < 1) = true := decide_eq_true (by omega)
      clear c3
      (first | rw [c3b0] | (simp only [i64_w, i32_w]; rw [c3b0]) | skip)
      have H' := Aside0.mk H
      clear H
      go_wp2
      repeat (go_quiet (fail); try go_wp2)
      go_meet
      case rel => exact ⟨_, (true), (by first | rfl | (simp; done) | (simp [*]; done)), H', ⟨by first | omega | exact Nat.le_refl _⟩, by repeat (first | exact Drawn0.refl _ | apply Drawn0.step)⟩
    · rw [if_neg c3] at H
      have c3b0 : decide ((l0.length : Int) < 1) = false := decide_eq_false c3
      have c3b1 : decide (l0.length < 1) = false := decide_eq_false (by omega)
      clear c3
      (first | rw [c3b0] | (simp only [i64_w, i32_w]; rw [c3b0]) | skip)
      by_cases c4 : (l0.length : Int) > 256
      · rw [if_pos c4] at H
        have c4b0 : decide (256 < (l0.length : Int)) = true := decide_eq_true c4
        have c4b1 : decide (256 < l0.length) = true := decide_eq_true (by omega)
        clear c4
        have H' := Aside0.mk H
        clear H
        go_wp2
        repeat (go_quiet (fail); try go_wp2)
        go_meet
        case rel => exact ⟨_, (true), (by first | rfl | (simp; done) | (simp [*]; done)), H', ⟨by first | omega | exact Nat.le_refl _⟩, by repeat (first | exact Drawn0.refl _ | apply Drawn0.step)⟩
      · rw [if_neg c4] at H
        have c4b0 : decide (256 < (l0.length : Int)) = false := decide_eq_false c4
        have c4b1 : decide (256 < l0.length) = false := decide_eq_false (by omega)
        clear c4
        by_cases c5 : 0 < (l0.length : Int)
        · rw [if_pos c5] at H
          have c5b0 : decide (0 < (l0.length : Int)) = true := decide_eq_true c5
          have c5b1 : decide (0 < l0.length) = true := decide_eq_true (by omega)
          clear c5
          by_cases c6 : ((rd_L1 l0 0).length : Int) < 1
          · rw [if_pos c6] at H
            have c6b0 : decide (((rd_L1 l0 0).length : Int) < 1) = true := decide_eq_true c6
            have c6b1 : decide ((rd_L1 l0 0).length < 1) = true := decide_eq_true (by omega)
            clear c6
            have H' := Aside0.mk H
            clear H
            have p136 : 0 ≤ (0 : Int) := (by omega)
            have q136 : 0 < (l0.length : Int) := of_decide_eq_true (by first | (with_reducible assumption) | assumption)
            obtain ⟨ad136, A136_0, c136_0, e136, hx136_0, hl136_0, hi136_0⟩ := at_L1 HR0.out 0 p136 q136
            cases e136
            have qi136 : (0 < l0.length) = True := eq_true (by omega)
            (try rw [show ((0 : Int)).toNat = 0 from rfl] at hx136_0)
            (try rw [Addr.add_zero'] at hx136_0)
            have HR136_0 := Aside0.mk hi136_0
            have HC136_0 := Aside0.mk hl136_0
            clear hi136_0 hl136_0
            replace p136 := eq_true p136
            replace q136 := eq_true q136
            go_wp2
            repeat (go_quiet (fail); try go_wp2)
            go_meet
            case rel => exact ⟨_, (true), (by first | rfl | (simp; done) | (simp [*]; done)), H', ⟨by first | omega | exact Nat.le_refl _⟩, by repeat (first | exact Drawn0.refl _ | apply Drawn0.step)⟩
          · rw [if_neg c6] at H
            have c6b0 : decide (((rd_L1 l0 0).length : Int) < 1) = false := decide_eq_false c6
            have c6b1 : decide ((rd_L1 l0 0).length < 1) = false := decide_eq_false (by omega)
            clear c6
            have H' := Aside0.mk H
            clear H
            have p136 : 0 ≤ (0 : Int) := (by omega)
            have q136 : 0 < (l0.length : Int) := of_decide_eq_true (by first | (with_reducible assumption) | assumption)
            obtain ⟨ad136, A136_0, c136_0, e136, hx136_0, hl136_0, hi136_0⟩ := at_L1 HR0.out 0 p136 q136
            cases e136
            have qi136 : (0 < l0.length) = True := eq_true (by omega)
            (try rw [show ((0 : Int)).toNat = 0 from rfl] at hx136_0)
            (try rw [Addr.add_zero'] at hx136_0)
            have HR136_0 := Aside0.mk hi136_0
            have HC136_0 := Aside0.mk hl136_0
            clear hi136_0 hl136_0
            replace p136 := eq_true p136
            replace q136 := eq_true q136
            have p137 : 0 ≤ (0 : Int) := (by omega)
            have q137 : 0 < (l0.length : Int) := of_decide_eq_true (by first | (with_reducible assumption) | assumption)
            obtain ⟨ad137, A137_0, c137_0, e137, hx137_0, hl137_0, hi137_0⟩ := at_L1 HR0.out 0 p137 q137
            obtain rfl : ad136 = ad137 := (by injection e137)
            have qi137 : (0 < l0.length) = True := eq_true (by omega)
            (try rw [show ((0 : Int)).toNat = 0 from rfl] at hx137_0)
            (try rw [Addr.add_zero'] at hx137_0)
            have HR137_0 := Aside0.mk hi137_0
            have HC137_0 := Aside0.mk hl137_0
            clear hi137_0 hl137_0
            replace p137 := eq_true p137
            replace q137 := eq_true q137
            have ea_ := Option.some.inj (hx136_0.symm.trans hx137_0)
            injection ea_ with ea_ en_ ec_
            subst ea_
            subst ec_
            clear en_
            go_wp2
            repeat (go_quiet (fail); try go_wp2)
            go_meet
            case rel => exact ⟨_, (decide (((rd_L1 l0 0).length : Int) > 512)), (by first | rfl | (simp; done) | (simp [*]; done)), H', ⟨by first | omega | exact Nat.le_refl _⟩, by repeat (first | exact Drawn0.refl _ | apply Drawn0.step)⟩
        · rw [if_neg c5] at H
          exact absurd H (by simp)
  case rest =>
    clear HC2
    try clear c1
    try clear p1
    try clear q1
    try clear hx1
    try clear qi1
    try clear p2
    try clear c3
    try clear c3b0
    try clear c3b1
    try clear c4
    try clear c4b0
    try clear c4b1
    try clear c5
    try clear c5b0
    try clear c5b1
    try clear c6
    try clear c6b0
    try clear c6b1
    try clear hx136_0
    try clear hx137_0
    try clear p136
    try clear p137
    try clear q136
    try clear q137
    obtain ⟨kq, x25_1, rfl, HA, HJ1, ⟨mc1, rfl⟩⟩ := hcut
    cases kq with
    | zero => exact absurd HA.out (by simp [culletlaw10_side.j0])
    | succ kj1 =>
      have H := HA.out
      clear HA
      simp only [culletlaw10_side.j0] at H
      by_cases c7 : x25_1 = true
      · subst c7
        have H1 : (some 0) = some r := by rw [if_pos rfl] at H; exact H
        clear H
        have H := H1
        clear H1
        obtain rfl := Option.some.inj H
        go_wp2
        repeat (go_quiet (fail); try go_wp2)
        go_ret
        exact ⟨by first | rfl | (simp; done) | (simp [*]; done), by repeat (first | exact Drawn0.refl _ | apply Drawn0.step)⟩
      · replace c7 := Bool.eq_false_iff.mpr c7
        subst c7
        have H1 : (culletlaw10_side.l0 kj1 l0 0) = some r := by rw [if_neg (show ¬ (false = true) by decide)] at H; exact H
        clear H
        have H := H1
        clear H1
        have H' := Aside0.mk H
        clear H
        go_wp2
        repeat (go_quiet (fail); try go_wp2)
        go_loopg [3] kj1 (fun kq v3 w' => ∃ (x3_2 : Int), v3 = .int .i64 x3_2 ∧ Aside0 (culletlaw10_side.l0 kq l0 x3_2 = some r) ∧ Aside0 (kq ≤ kj1) ∧ Drawn0 w w')
        case atStart => exact ⟨(0), (by first | rfl | (simp; done) | (simp [*]; done)), H', ⟨Nat.le_refl _⟩, by repeat (first | exact Drawn0.refl _ | apply Drawn0.step)⟩
        case round =>
          clear H'
          try clear c1
          try clear p1
          try clear q1
          try clear hx1
          try clear qi1
          try clear p2
          try clear c3
          try clear c3b0
          try clear c3b1
          try clear c4
          try clear c4b0
          try clear c4b1
          try clear c5
          try clear c5b0
          try clear c5b1
          try clear c6
          try clear c6b0
          try clear c6b1
          try clear c7
          try clear hx136_0
          try clear hx137_0
          try clear p1
          try clear p136
          try clear p137
          try clear p2
          try clear q1
          try clear q136
          try clear q137
          obtain ⟨x3_2, rfl, HA, HK2, ⟨m2, rfl⟩⟩ := hrel
          cases gk with
          | zero => exact absurd HA.out (by simp [culletlaw10_side.l0])
          | succ k2 =>
            have H := HA.out
            clear HA
            simp only [culletlaw10_side.l0] at H
            by_cases c8 : x3_2 < (l0.length : Int)
            · rw [if_pos c8] at H
              have c8b0 : decide (x3_2 < (l0.length : Int)) = true := decide_eq_true c8
              clear c8
              by_cases c9 : 0 ≤ x3_2
              · rw [if_pos c9] at H
                have c9b0 : decide (0 ≤ x3_2) = true := decide_eq_true c9
                clear c9
                by_cases c10 : 0 < (l0.length : Int)
                · rw [if_pos c10] at H
                  have c10b0 : decide (0 < (l0.length : Int)) = true := decide_eq_true c10
                  have c10b1 : decide (0 < l0.length) = true := decide_eq_true (by omega)
                  clear c10
                  by_cases c11 : ((rd_L1 l0 x3_2).length : Int) = ((rd_L1 l0 0).length : Int)
                  · rw [if_pos c11] at H
                    have c11b0 : (((rd_L1 l0 x3_2).length : Int) == ((rd_L1 l0 0).length : Int)) = true := beq_iff_eq.mpr c11
                    have c11b1 : (((rd_L1 l0 x3_2).length : Int) != ((rd_L1 l0 0).length : Int)) = false := bne_eq_false_iff_eq.mpr c11
                    have c11b2 : ((rd_L1 l0 x3_2).length == (rd_L1 l0 0).length) = true := by first | simpa using c11 | (simp at c11 ⊢; omega)
                    clear c11
                    have H' := Aside0.mk H
                    clear H
                    have p138 : 0 ≤ (x3_2 : Int) := of_decide_eq_true (by first | (with_reducible assumption) | assumption)
                    have q138 : x3_2 < (l0.length : Int) := of_decide_eq_true (by first | (with_reducible assumption) | assumption)
                    obtain ⟨ad138, A138_0, c138_0, e138, hx138_0, hl138_0, hi138_0⟩ := at_L1 HR0.out x3_2 p138 q138
                    cases e138
                    have HR138_0 := Aside0.mk hi138_0
                    have HC138_0 := Aside0.mk hl138_0
                    clear hi138_0 hl138_0
                    replace p138 := eq_true p138
                    replace q138 := eq_true q138
                    have p139 : 0 ≤ (0 : Int) := (by omega)
                    have q139 : 0 < (l0.length : Int) := of_decide_eq_true (by first | (with_reducible assumption) | assumption)
                    obtain ⟨ad139, A139_0, c139_0, e139, hx139_0, hl139_0, hi139_0⟩ := at_L1 HR0.out 0 p139 q139
                    obtain rfl : ad138 = ad139 := (by injection e139)
                    have qi139 : (0 < l0.length) = True := eq_true (by omega)
                    (try rw [show ((0 : Int)).toNat = 0 from rfl] at hx139_0)
                    (try rw [Addr.add_zero'] at hx139_0)
                    have HR139_0 := Aside0.mk hi139_0
                    have HC139_0 := Aside0.mk hl139_0
                    clear hi139_0 hl139_0
                    replace p139 := eq_true p139
                    replace q139 := eq_true q139
                    go_wp2
                    repeat (go_quiet (fail); try go_wp2)
                    go_roundg k2
                    case measure => have := HJ1.out; have := HK2.out; omega
                    case rel => exact ⟨(wrap64 (x3_2 + 1)), (by first | rfl | (simp; done) | (simp [*]; done)), H', ⟨by have := HJ1.out; have := HK2.out; omega⟩, by repeat (first | exact Drawn0.refl _ | apply Drawn0.step)⟩
                  · rw [if_neg c11] at H
                    have c11b0 : (((rd_L1 l0 x3_2).length : Int) == ((rd_L1 l0 0).length : Int)) = false := beq_eq_false_iff_ne.mpr c11
                    have c11b1 : (((rd_L1 l0 x3_2).length : Int) != ((rd_L1 l0 0).length : Int)) = true := bne_iff_ne.mpr c11
                    have c11b2 : ((rd_L1 l0 x3_2).length == (rd_L1 l0 0).length) = false := by first | simpa using c11 | (simp at c11 ⊢; omega)
                    obtain rfl := Option.some.inj H
                    have p138 : 0 ≤ (x3_2 : Int) := of_decide_eq_true (by first | (with_reducible assumption) | assumption)
                    have q138 : x3_2 < (l0.length : Int) := of_decide_eq_true (by first | (with_reducible assumption) | assumption)
                    obtain ⟨ad138, A138_0, c138_0, e138, hx138_0, hl138_0, hi138_0⟩ := at_L1 HR0.out x3_2 p138 q138
                    cases e138
                    have HR138_0 := Aside0.mk hi138_0
                    have HC138_0 := Aside0.mk hl138_0
                    clear hi138_0 hl138_0
                    replace p138 := eq_true p138
                    replace q138 := eq_true q138
                    have p139 : 0 ≤ (0 : Int) := (by omega)
                    have q139 : 0 < (l0.length : Int) := of_decide_eq_true (by first | (with_reducible assumption) | assumption)
                    obtain ⟨ad139, A139_0, c139_0, e139, hx139_0, hl139_0, hi139_0⟩ := at_L1 HR0.out 0 p139 q139
                    obtain rfl : ad138 = ad139 := (by injection e139)
                    have qi139 : (0 < l0.length) = True := eq_true (by omega)
                    (try rw [show ((0 : Int)).toNat = 0 from rfl] at hx139_0)
                    (try rw [Addr.add_zero'] at hx139_0)
                    have HR139_0 := Aside0.mk hi139_0
                    have HC139_0 := Aside0.mk hl139_0
                    clear hi139_0 hl139_0
                    replace p139 := eq_true p139
                    replace q139 := eq_true q139
                    go_wp2
                    repeat (go_quiet (fail); try go_wp2)
                    go_ret
                    exact ⟨by first | rfl | (simp; done) | (simp [*]; done), by repeat (first | exact Drawn0.refl _ | apply Drawn0.step)⟩
                · rw [if_neg c10] at H
                  exact absurd H (by simp)
              · rw [if_neg c9] at H
                exact absurd H (by simp)
            · rw [if_neg c8] at H
              have c8b0 : decide (x3_2 < (l0.length : Int)) = false := decide_eq_false c8
              clear c8
              obtain rfl := Option.some.inj H
              go_wp2
              repeat (go_quiet (fail); try go_wp2)
              go_ret
              exact ⟨by first | rfl | (simp; done) | (simp [*]; done), by repeat (first | exact Drawn0.refl _ | apply Drawn0.step)⟩

end Go.Proofs.Ytidogckochpbgaa.B
