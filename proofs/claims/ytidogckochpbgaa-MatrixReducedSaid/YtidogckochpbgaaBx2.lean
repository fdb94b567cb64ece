-- Printed for this claim by mp.py, a program of its prover, through the kit's print. Lean checks it.
import Derived.Test.YtidogckochpbgaaBx0
namespace Go.Proofs.Ytidogckochpbgaa.B
open Go.RowKit Go.Proofs.YtidogckochpbgaaW.PrintWords Go.Proofs.YtidogckochpbgaaW.PrintLast Go.Proofs.YtidogckochpbgaaW.PrintMore Go.Proofs.Ytidogckochpbgaa.A
attribute [local go_sem] max2_int min2_int max_two min_two max_three min_three max_four min_four   -- for this text's walks alone
set_option linter.unusedVariables false
set_option linter.unusedSimpArgs false

/-! ### matrix_Null: function 28 -/
mutual
def matrix_Null.l0 : Nat → List (List Int) → List Int → List (List Int) → Int → Int → Int → Option ((List (List Int)) × Int)
  | 0, _, _, _, _, _, _ => none
  | k + 1, x4, x5, x7, x8, x25, x26 => if x26 < x25 then (if x8 < (x5.length : Int) then (if 0 ≤ x8 then (matrix_Null.j1 k x4 x5 x7 x8 x26 x25 x26 ((rd x5 x8) == x26)) else (none)) else (matrix_Null.j1 k x4 x5 x7 x8 x26 x25 x26 false)) else (some (x7, 0))
def matrix_Null.j1 : Nat → List (List Int) → List Int → List (List Int) → Int → Int → Int → Int → Bool → Option ((List (List Int)) × Int)
  | 0, _, _, _, _, _, _, _, _ => none
  | k + 1, x4, x5, x7, x8, x9, x25, x26, x40 => if x40 = true then (matrix_Null.l0 k x4 x5 x7 (wrap64 (x8 + 1)) x25 (wrap64 (x26 + 1))) else (if 0 < (x4.length : Int) then (if 0 ≤ ((rd_L1 x4 0).length : Int) then (if (((rd_L1 x4 0).length : Int) : Int).toNat ≤ 281474976710656 then ((some (List.replicate (((rd_L1 x4 0).length : Int) : Int).toNat 0 : List Int)).bind fun y118 => (if 0 ≤ x9 then (if x9 < (y118.length : Int) then (matrix_Null.l1 k x4 x5 x7 x8 x9 (y118.set (x9 : Int).toNat 1) x25 x26 x5 (x5.length : Int) 0) else (none)) else (none))) else (none)) else (none)) else (none))
def matrix_Null.l1 : Nat → List (List Int) → List Int → List (List Int) → Int → Int → List Int → Int → Int → List Int → Int → Int → Option ((List (List Int)) × Int)
  | 0, _, _, _, _, _, _, _, _, _, _, _ => none
  | k + 1, x4, x5, x7, x8, x9, x10, x25, x26, x51, x52, x53 => if x53 < x52 then (if 0 ≤ x53 then (if x53 < (x51.length : Int) then (if x53 < (x4.length : Int) then (if 0 ≤ x9 then (if x9 < ((rd_L1 x4 x53).length : Int) then (if 0 ≤ (rd x51 x53) then (if (rd x51 x53) < (x10.length : Int) then (matrix_Null.l1 k x4 x5 x7 x8 x9 (x10.set ((rd x51 x53) : Int).toNat (rd (rd_L1 x4 x53) x9)) x25 x26 x51 x52 (wrap64 (x53 + 1))) else (none)) else (none)) else (none)) else (none)) else (none)) else (none)) else (none)) else (if x7.length < 5864062014805 then (matrix_Null.l0 k x4 x5 (x7 ++ [x10]) x8 x25 (wrap64 (x26 + 1))) else (none))
end
def matrix_Null.f (k : Nat) (l0 : List (List Int)) : Option ((List (List Int)) × Int) := (matrix_Reduce.f l0).bind fun bt108 => (if bt108.2.2 = 0 then (if 0 < (bt108.1.length : Int) then (matrix_Null.l0 k bt108.1 bt108.2.1 ([] : List (List Int)) 0 ((rd_L1 bt108.1 0).length : Int) 0) else (none)) else (some (([] : List (List Int)), bt108.2.2)))
theorem matrix_Null.mono_l : ∀ k, (∀ y0 y1 y2 y3 y4 y5, LeO (matrix_Null.l0 k y0 y1 y2 y3 y4 y5) (matrix_Null.l0 (k + 1) y0 y1 y2 y3 y4 y5)) ∧ (∀ y0 y1 y2 y3 y4 y5 y6 y7, LeO (matrix_Null.j1 k y0 y1 y2 y3 y4 y5 y6 y7) (matrix_Null.j1 (k + 1) y0 y1 y2 y3 y4 y5 y6 y7)) ∧ (∀ y0 y1 y2 y3 y4 y5 y6 y7 y8 y9 y10, LeO (matrix_Null.l1 k y0 y1 y2 y3 y4 y5 y6 y7 y8 y9 y10) (matrix_Null.l1 (k + 1) y0 y1 y2 y3 y4 y5 y6 y7 y8 y9 y10))
  | 0 => ⟨fun _ _ _ _ _ _ r h => by simp [matrix_Null.l0] at h, fun _ _ _ _ _ _ _ _ r h => by simp [matrix_Null.j1] at h, fun _ _ _ _ _ _ _ _ _ _ _ r h => by simp [matrix_Null.l1] at h⟩
  | k + 1 => by
    obtain ⟨ih0, ih1, ih2⟩ := matrix_Null.mono_l k
    refine ⟨?_, ?_, ?_⟩
    · intro y0 y1 y2 y3 y4 y5
      unfold matrix_Null.l0
      repeat' first
      | (with_reducible exact ih0 _ _ _ _ _ _)
      | (with_reducible exact ih1 _ _ _ _ _ _ _ _)
      | (with_reducible exact ih2 _ _ _ _ _ _ _ _ _ _ _)
      | (with_reducible exact LeO.refl _)
      | (with_reducible exact LeO.none _)
      | (with_reducible refine LeO.ite ?_ ?_)
      | (with_reducible refine LeO.bind ?_ (fun _ => ?_))
      | exact ih0 _ _ _ _ _ _
      | exact ih1 _ _ _ _ _ _ _ _
      | exact ih2 _ _ _ _ _ _ _ _ _ _ _
      | exact LeO.none _
      | refine LeO.ite ?_ ?_
      | refine LeO.bind ?_ (fun _ => ?_)
    · intro y0 y1 y2 y3 y4 y5 y6 y7
      unfold matrix_Null.j1
      repeat' first
      | (with_reducible exact ih0 _ _ _ _ _ _)
      | (with_reducible exact ih1 _ _ _ _ _ _ _ _)
      | (with_reducible exact ih2 _ _ _ _ _ _ _ _ _ _ _)
      | (with_reducible exact LeO.refl _)
      | (with_reducible exact LeO.none _)
      | (with_reducible refine LeO.ite ?_ ?_)
      | (with_reducible refine LeO.bind ?_ (fun _ => ?_))
      | exact ih0 _ _ _ _ _ _
      | exact ih1 _ _ _ _ _ _ _ _
      | exact ih2 _ _ _ _ _ _ _ _ _ _ _
      | exact LeO.none _
      | refine LeO.ite ?_ ?_
      | refine LeO.bind ?_ (fun _ => ?_)
    · intro y0 y1 y2 y3 y4 y5 y6 y7 y8 y9 y10
      unfold matrix_Null.l1
      repeat' first
      | (with_reducible exact ih0 _ _ _ _ _ _)
      | (with_reducible exact ih1 _ _ _ _ _ _ _ _)
      | (with_reducible exact ih2 _ _ _ _ _ _ _ _ _ _ _)
      | (with_reducible exact LeO.refl _)
      | (with_reducible exact LeO.none _)
      | (with_reducible refine LeO.ite ?_ ?_)
      | (with_reducible refine LeO.bind ?_ (fun _ => ?_))
      | exact ih0 _ _ _ _ _ _
      | exact ih1 _ _ _ _ _ _ _ _
      | exact ih2 _ _ _ _ _ _ _ _ _ _ _
      | exact LeO.none _
      | refine LeO.ite ?_ ?_
      | refine LeO.bind ?_ (fun _ => ?_)
theorem matrix_Null.mono : ∀ a0 k, LeO (matrix_Null.f k a0) (matrix_Null.f (k + 1) a0) := by
  intro a0 k
  obtain ⟨ih0, ih1, ih2⟩ := matrix_Null.mono_l k
  unfold matrix_Null.f
  repeat' first
      | (with_reducible exact ih0 _ _ _ _ _ _)
      | (with_reducible exact ih1 _ _ _ _ _ _ _ _)
      | (with_reducible exact ih2 _ _ _ _ _ _ _ _ _ _ _)
      | (with_reducible exact LeO.refl _)
      | (with_reducible exact LeO.none _)
      | (with_reducible refine LeO.ite ?_ ?_)
      | (with_reducible refine LeO.bind ?_ (fun _ => ?_))
      | exact ih0 _ _ _ _ _ _
      | exact ih1 _ _ _ _ _ _ _ _
      | exact ih2 _ _ _ _ _ _ _ _ _ _ _
      | exact LeO.none _
      | refine LeO.ite ?_ ?_
      | refine LeO.bind ?_ (fun _ => ?_)
set_option maxHeartbeats 8000000 in
set_option maxRecDepth 100000 in
theorem matrix_Null.calls (k : Nat) (A0 : Option Addr) (c0 : Nat) (l0 : List (List Int)) (r1 : List (List Int)) (r2 : Int) (w : World) (hr0 : Kd.C (Kd.slice 5 (Kd.int .u8)) w A0 l0.length l0) (hc0 : l0.length ≤ c0) (h : matrix_Null.f k l0 = some (r1, r2)) :
    Calls Try.prog 28 #[.slice A0 l0.length c0] w fun e w' => ∃ v0_ : Value, e = .returned (.tuple #[v0_, .int .i64 r2]) ∧ Kd.S (Kd.slice 5 (Kd.int .u8)) 31 w' w.heap.size (fun _ => True) v0_ r1 ∧ Below w.heap.size w w' := by
  have HR0 := Aside0.mk hr0
  have HC0 := Aside0.mk hc0
  clear hr0 hc0
  have HB := Aside0.mk (Below.refl w.heap.size w)
  have H : ((matrix_Reduce.f l0).bind fun bt108 => (if bt108.2.2 = 0 then (if 0 < (bt108.1.length : Int) then (matrix_Null.l0 k bt108.1 bt108.2.1 ([] : List (List Int)) 0 ((rd_L1 bt108.1 0).length : Int) 0) else (none)) else (some (([] : List (List Int)), bt108.2.2)))) = some (r1, r2) := h
  clear h
  replace H := Option.bind_eq_some_iff.mp H
  obtain ⟨⟨t108, t109, t110⟩, A20, H⟩ := H
  replace H : (if t110 = 0 then (if 0 < (t108.length : Int) then (matrix_Null.l0 k t108 t109 ([] : List (List Int)) 0 ((rd_L1 t108 0).length : Int) 0) else (none)) else (some (([] : List (List Int)), t110))) = some (r1, r2) := H
  have A2 := Aside0.mk A20
  clear A20
  by_cases c3 : t110 = 0
  · rw [if_pos c3] at H
    have c3b0 : (t110 == 0) = true := beq_iff_eq.mpr c3
    have c3b1 : (t110 != 0) = false := bne_eq_false_iff_eq.mpr c3
    clear c3
    by_cases c4 : 0 < (t108.length : Int)
    · rw [if_pos c4] at H
      have c4b0 : decide (0 < (t108.length : Int)) = true := decide_eq_true c4
      have c4b1 : decide (0 < t108.length) = true := decide_eq_true (by omega)
      clear c4
      have H' := Aside0.mk H
      clear H
      go_enter Try.func28, Try.ntmps28
      go_wp2_with (first | ((with_reducible refine gate_callee (f := 23) rfl ?_); refine goesL_ (some 15) rfl rfl Try.func23 (by kernel_rfl) rfl #[.slice A0 l0.length c0] rfl (by (try simp only [List.map_toArray, List.map_cons, List.map_nil]); first | done | rfl | (simp only [tb_wrap8]; done) | (simp only [tb_wrap8]; rfl) | (simp only [List.length_drop, List.length_take]; rfl)) ?_; (with_reducible refine (matrix_Reduce.calls _ _ l0 t108 t109 t110 _ ?side1 ?side2 A2.out).mono ?_); (case side1 => repeat (first | exact HR0.out | (with_reducible refine Kd.C_alloc ?_ _) | (with_reducible refine Kd.C_drewN ?_ _) | (with_reducible refine Kd.C_drew ?_))); (case side2 => exact HC0.out); rintro e w5 ⟨v111, v113, rfl, ho0, ho1, hb⟩; refine ⟨_, rfl, ?_⟩; have n0_ := Aside0.mk (Kd.S_lower ho0 (below_size (by repeat (first | (with_reducible first | exact HB.out | apply below_alloc | apply pw_below_drewN | apply below_drew1) | exact HB.out)))); have n1_ := Aside0.mk (Kd.R_lower ho1 (below_size (by repeat (first | (with_reducible first | exact HB.out | apply below_alloc | apply pw_below_drewN | apply below_drew1) | exact HB.out)))); have n2_ := Aside0.mk (below_step (by repeat (first | (with_reducible first | exact HB.out | apply below_alloc | apply pw_below_drewN | apply below_drew1) | exact HB.out)) hb); clear HB; have HO112 := n0_; have HO114 := n1_; have HB := n2_; clear n0_ n1_ n2_; (try clear hb); (try clear hb2); (try clear hk); (try clear hi); (try clear ho0); (try clear ho1); obtain ⟨Ao6, co6, eo6⟩ := Kd.S_slice HO112.out; subst eo6; have p115 : 0 ≤ (0 : Int) := (by omega); have q115 : 0 < (t108.length : Int) := of_decide_eq_true (by first | (with_reducible assumption) | assumption); obtain ⟨ad115, A115_0, c115_0, e115, hx115_0, hl115_0, hi115_0⟩ := at_L1 (Kd.S_reads' HO112.out).2.2 0 p115 q115; cases e115; obtain ⟨ce115, hce115, hMe115, hcc115⟩ := Kd.S_get HO112.out [] 0 p115 (by first | exact q115 | exact of_decide_eq_true (by first | (with_reducible assumption) | assumption) | (have e_ := (Kd.S_reads' HO112.out).1; omega)); obtain ⟨ve115_0, rfl, ge115_0⟩ := hMe115; have hv115_0 := hcc115 0 _ rfl; rw [Nat.add_zero, show ((Kd.slice 5 (Kd.int .u8))).sz = 1 from rfl, Nat.mul_one] at hv115_0; replace hv115_0 := Option.some.inj (hv115_0.symm.trans hx115_0); rw [hv115_0] at ge115_0; have HL115_0 := Aside0.mk (show Kd.R (Kd.int .u8) 5 _ _ _ _ (rd_L1 t108 0) from ge115_0); clear hv115_0 ge115_0; clear hcc115 hce115; have qi115 : (0 < t108.length) = True := eq_true (by omega); (try rw [show ((0 : Int)).toNat = 0 from rfl] at hx115_0); (try rw [Addr.add_zero'] at hx115_0); have HR115_0 := Aside0.mk hi115_0; have HC115_0 := Aside0.mk hl115_0; clear hi115_0 hl115_0; replace p115 := eq_true p115; replace q115 := eq_true q115))
      go_loopg [7, 8, 26] k (fun kq v7 v8 v26 w' => ∃ (x7_1 : List (List Int)) (x8_1 : Int) (x26_1 : Int), v8 = .int .i64 x8_1 ∧ v26 = .int .i64 x26_1 ∧ Aside0 (matrix_Null.l0 kq t108 t109 x7_1 x8_1 ((rd_L1 t108 0).length : Int) x26_1 = some (r1, r2)) ∧ Aside0 (kq ≤ k) ∧ Aside0 (Kd.S (Kd.slice 5 (Kd.int .u8)) 31 w' w.heap.size (fun k_ => some k_ ≠ (v7 : Value).ownBlock) (.slice (some ad115) t108.length co6) t108) ∧ Aside0 (Kd.R (Kd.int .i64) 3 w' w.heap.size (fun _ => True) v113 t109) ∧ Aside0 (Kd.S (Kd.slice 5 (Kd.int .u8)) 31 w' w.heap.size (fun k_ => some k_ ≠ ((.slice (some ad115) t108.length co6) : Value).ownBlock) v7 x7_1) ∧ Aside0 (Below w.heap.size w w'))
      case atStart => exact ⟨(([] : List (List Int))), (0), (0), (by first | rfl | (simp; done) | (simp [*]; done)), (by first | rfl | (simp; done) | (simp [*]; done)), H', ⟨Nat.le_refl _⟩, ⟨by (with_reducible repeat (first | apply Kd.S_alloc | apply Kd.S_drewN | apply Kd.S_drew)); exact Kd.S_mono HO112.out (fun _ hk => (by simp [Value.ownBlock]))⟩, ⟨by (with_reducible repeat (first | apply Kd.R_alloc | apply Kd.R_drewN | apply Kd.R_drew)); exact HO114.out⟩, ⟨by first | exact Kd.S_nil _ _ _ _ _ | exact Kd.N_nil _ _ _ _ _ | exact Kd.V_nil _ _ _ _ _ | exact Kd.Q_nil _ _ _ _ _ | exact Kd.R_nil _ _ _ _ _⟩, ⟨by repeat (first | (with_reducible first | exact HB.out | apply below_alloc | apply pw_below_drewN | apply below_drew1) | exact HB.out)⟩⟩
      case round =>
        clear H'
        try clear c1
        try clear p1
        try clear q1
        try clear hx1
        try clear qi1
        try clear c2
        try clear p2
        try clear c3
        try clear c3b0
        try clear c3b1
        try clear c4
        try clear c4b0
        try clear c4b1
        try clear hx115_0
        try clear p115
        try clear q115
        obtain ⟨x7_1, x8_1, x26_1, rfl, rfl, HA, HK1, HO_4, HO_5, HO_7, HB⟩ := hrel
        cases gk with
        | zero => exact absurd HA.out (by simp [matrix_Null.l0])
        | succ k1 =>
          have H := HA.out
          clear HA
          simp only [matrix_Null.l0] at H
          by_cases c7 : x26_1 < ((rd_L1 t108 0).length : Int)
          · rw [if_pos c7] at H
            have c7b0 : decide (x26_1 < ((rd_L1 t108 0).length : Int)) = true := decide_eq_true c7
            clear c7
            have HC8 := Aside0.mk H
            clear H
            go_upto_region 9 with (fail)
            go_cut [40] (fun v40 wc => ∃ (kq : Nat) (x40_7 : Bool), v40 = .bool x40_7 ∧ Aside0 (matrix_Null.j1 kq t108 t109 x7_1 x8_1 x26_1 ((rd_L1 t108 0).length : Int) x26_1 x40_7 = some (r1, r2)) ∧ Aside0 (kq ≤ k1) ∧ Aside0 (Kd.S (Kd.slice 5 (Kd.int .u8)) 31 wc w.heap.size (fun k_ => some k_ ≠ (u7 : Value).ownBlock) (.slice (some ad115) t108.length co6) t108) ∧ Aside0 (Kd.R (Kd.int .i64) 3 wc w.heap.size (fun _ => True) v113 t109) ∧ Aside0 (Kd.S (Kd.slice 5 (Kd.int .u8)) 31 wc w.heap.size (fun k_ => some k_ ≠ ((.slice (some ad115) t108.length co6) : Value).ownBlock) u7 x7_1) ∧ Aside0 (Below w.heap.size w wc))
            case first =>
              have H := HC8.out
              clear HC8
              by_cases c9 : x8_1 < (t109.length : Int)
              · rw [if_pos c9] at H
                have c9b0 : decide (x8_1 < (t109.length : Int)) = true := decide_eq_true c9
                clear c9
                (first | rw [c9b0] | (simp only [i64_w, i32_w]; rw [c9b0]) | skip)
                by_cases c10 : 0 ≤ x8_1
                · rw [if_pos c10] at H
                  have c10b0 : decide (0 ≤ x8_1) = true := decide_eq_true c10
                  clear c10
                  have H' := Aside0.mk H
                  clear H
                  obtain ⟨Ao11, co11, eo11⟩ := Kd.R_slice HO_5.out
                  subst eo11
                  have p116 : 0 ≤ (x8_1 : Int) := of_decide_eq_true (by first | (with_reducible assumption) | assumption)
                  have q116 : x8_1 < (t109.length : Int) := of_decide_eq_true (by first | (with_reducible assumption) | assumption)
                  obtain ⟨ad116, e116, hx116_0⟩ := Kd.at_int (Kd.R_reads' HO_5.out).2.2 x8_1 p116 q116
                  cases e116
                  replace p116 := eq_true p116
                  replace q116 := eq_true q116
                  go_wp2
                  go_meet
                  case rel => exact ⟨_, (((rd t109 x8_1) == x26_1)), (by first | rfl | (simp; done) | (simp [*]; done)), H', ⟨by have := HK1.out; first | omega | exact Nat.le_refl _⟩, ⟨by (with_reducible repeat (first | apply Kd.S_alloc | apply Kd.S_drewN | apply Kd.S_drew)); exact HO_4.out⟩, ⟨by (with_reducible repeat (first | apply Kd.R_alloc | apply Kd.R_drewN | apply Kd.R_drew)); exact HO_5.out⟩, ⟨by (with_reducible repeat (first | apply Kd.S_alloc | apply Kd.S_drewN | apply Kd.S_drew)); exact HO_7.out⟩, ⟨by repeat (first | (with_reducible first | exact HB.out | apply below_alloc | apply pw_below_drewN | apply below_drew1) | exact HB.out)⟩⟩
                · rw [if_neg c10] at H
                  exact absurd H (by simp)
              · rw [if_neg c9] at H
                have c9b0 : decide (x8_1 < (t109.length : Int)) = false := decide_eq_false c9
                clear c9
                (first | rw [c9b0] | (simp only [i64_w, i32_w]; rw [c9b0]) | skip)
                have H' := Aside0.mk H
                clear H
                obtain ⟨Ao12, co12, eo12⟩ := Kd.R_slice HO_5.out
                subst eo12
                go_wp2
                go_meet
                case rel => exact ⟨_, (false), (by first | rfl | (simp; done) | (simp [*]; done)), H', ⟨by have := HK1.out; first | omega | exact Nat.le_refl _⟩, ⟨by (with_reducible repeat (first | apply Kd.S_alloc | apply Kd.S_drewN | apply Kd.S_drew)); exact HO_4.out⟩, ⟨by (with_reducible repeat (first | apply Kd.R_alloc | apply Kd.R_drewN | apply Kd.R_drew)); exact HO_5.out⟩, ⟨by (with_reducible repeat (first | apply Kd.S_alloc | apply Kd.S_drewN | apply Kd.S_drew)); exact HO_7.out⟩, ⟨by repeat (first | (with_reducible first | exact HB.out | apply below_alloc | apply pw_below_drewN | apply below_drew1) | exact HB.out)⟩⟩
            case rest =>
              clear HC8
              try clear c1
              try clear p1
              try clear q1
              try clear hx1
              try clear qi1
              try clear c2
              try clear p2
              try clear c3
              try clear c3b0
              try clear c3b1
              try clear c4
              try clear c4b0
              try clear c4b1
              try clear c7
              try clear c7b0
              try clear p8
              try clear c9
              try clear c9b0
              try clear c10
              try clear c10b0
              try clear c11
              try clear p11
              try clear q11
              try clear hx11
              try clear qi11
              try clear hx115_0
              try clear hx116_0
              try clear p1
              try clear p115
              try clear p116
              try clear p2
              try clear q1
              try clear q115
              try clear q116
              obtain ⟨kq, x40_7, rfl, HA, HJ7, HO_4, HO_5, HO_7, HB⟩ := hcut
              cases kq with
              | zero => exact absurd HA.out (by simp [matrix_Null.j1])
              | succ kj7 =>
                have H := HA.out
                clear HA
                simp only [matrix_Null.j1] at H
                by_cases c13 : x40_7 = true
                · subst c13
                  have H1 : (matrix_Null.l0 kj7 t108 t109 x7_1 (wrap64 (x8_1 + 1)) ((rd_L1 t108 0).length : Int) (wrap64 (x26_1 + 1))) = some (r1, r2) := by rw [if_pos rfl] at H; exact H
                  clear H
                  have H := H1
                  clear H1
                  have H' := Aside0.mk H
                  clear H
                  go_wp2
                  go_roundg kj7
                  case measure => have := HK1.out; have := HJ7.out; omega
                  case rel => exact ⟨(x7_1), (wrap64 (x8_1 + 1)), (wrap64 (x26_1 + 1)), (by first | rfl | (simp; done) | (simp [*]; done)), (by first | rfl | (simp; done) | (simp [*]; done)), H', ⟨by have := HK1.out; have := HJ7.out; omega⟩, ⟨by (with_reducible repeat (first | apply Kd.S_alloc | apply Kd.S_drewN | apply Kd.S_drew)); exact HO_4.out⟩, ⟨by (with_reducible repeat (first | apply Kd.R_alloc | apply Kd.R_drewN | apply Kd.R_drew)); exact HO_5.out⟩, ⟨by (with_reducible repeat (first | apply Kd.S_alloc | apply Kd.S_drewN | apply Kd.S_drew)); exact HO_7.out⟩, ⟨by repeat (first | (with_reducible first | exact HB.out | apply below_alloc | apply pw_below_drewN | apply below_drew1) | exact HB.out)⟩⟩
                · replace c13 := Bool.eq_false_iff.mpr c13
                  subst c13
                  have H1 : (if 0 < (t108.length : Int) then (if 0 ≤ ((rd_L1 t108 0).length : Int) then (if (((rd_L1 t108 0).length : Int) : Int).toNat ≤ 281474976710656 then ((some (List.replicate (((rd_L1 t108 0).length : Int) : Int).toNat 0 : List Int)).bind fun y118 => (if 0 ≤ x26_1 then (if x26_1 < (y118.length : Int) then (matrix_Null.l1 kj7 t108 t109 x7_1 x8_1 x26_1 (y118.set (x26_1 : Int).toNat 1) ((rd_L1 t108 0).length : Int) x26_1 t109 (t109.length : Int) 0) else (none)) else (none))) else (none)) else (none)) else (none)) = some (r1, r2) := by rw [if_neg (show ¬ (false = true) by decide)] at H; exact H
                  clear H
                  have H := H1
                  clear H1
                  by_cases c14 : 0 < (t108.length : Int)
                  · rw [if_pos c14] at H
                    have c14b0 : decide (0 < (t108.length : Int)) = true := decide_eq_true c14
                    have c14b1 : decide (0 < t108.length) = true := decide_eq_true (by omega)
                    clear c14
                    by_cases c15 : 0 ≤ ((rd_L1 t108 0).length : Int)
                    · rw [if_pos c15] at H
                      have c15b0 := eq_true c15
                      have c15b1 : decide (0 ≤ ((rd_L1 t108 0).length : Int)) = true := decide_eq_true c15
                      clear c15
                      by_cases c16 : (((rd_L1 t108 0).length : Int) : Int).toNat ≤ 281474976710656
                      · rw [if_pos c16] at H
                        have c16b0 := eq_true c16
                        have c16b1 : decide ((((rd_L1 t108 0).length : Int) : Int).toNat ≤ 281474976710656) = true := decide_eq_true c16
                        clear c16
                        obtain ⟨y118, hy118⟩ : ∃ y_ : List Int, y_ = (List.replicate (((rd_L1 t108 0).length : Int) : Int).toNat 0) := ⟨_, rfl⟩
                        replace H : (if 0 ≤ x26_1 then (if x26_1 < (y118.length : Int) then (matrix_Null.l1 kj7 t108 t109 x7_1 x8_1 x26_1 (y118.set (x26_1 : Int).toNat 1) ((rd_L1 t108 0).length : Int) x26_1 t109 (t109.length : Int) 0) else (none)) else (none)) = some (r1, r2) := by first | (rw [hy118]; with_reducible exact H) | (have H2_ := (Option.bind_some _ _).symm.trans H; rw [hy118]; with_reducible exact H2_) | (have H2_ := (Option.bind_some _ _).symm.trans H; with_reducible exact H2_) | with_reducible exact H | (rw [hy118]; exact H) | exact H
                        have Ny118 := Aside0.mk hy118
                        clear hy118
                        by_cases c17 : 0 ≤ x26_1
                        · rw [if_pos c17] at H
                          have c17b0 : decide (0 ≤ x26_1) = true := decide_eq_true c17
                          clear c17
                          by_cases c18 : x26_1 < (y118.length : Int)
                          · rw [if_pos c18] at H
                            have c18b0 : decide (x26_1 < (y118.length : Int)) = true := decide_eq_true c18
                            clear c18
                            obtain ⟨y121, hy121⟩ : ∃ y_ : List Int, y_ = (y118.set (x26_1 : Int).toNat 1) := ⟨_, rfl⟩
                            replace H : (matrix_Null.l1 kj7 t108 t109 x7_1 x8_1 x26_1 y121 ((rd_L1 t108 0).length : Int) x26_1 t109 (t109.length : Int) 0) = some (r1, r2) := by first | (rw [hy121]; with_reducible exact H) | (have H2_ := (Option.bind_some _ _).symm.trans H; rw [hy121]; with_reducible exact H2_) | (have H2_ := (Option.bind_some _ _).symm.trans H; with_reducible exact H2_) | with_reducible exact H | (rw [hy121]; exact H) | exact H
                            have Ny121 := Aside0.mk hy121
                            clear hy121
                            have H' := Aside0.mk H
                            clear H
                            have p117 : 0 ≤ (0 : Int) := (by omega)
                            have q117 : 0 < (t108.length : Int) := of_decide_eq_true (by first | (with_reducible assumption) | assumption)
                            obtain ⟨ad117, A117_0, c117_0, e117, hx117_0, hl117_0, hi117_0⟩ := at_L1 (Kd.S_reads' HO_4.out).2.2 0 p117 q117
                            obtain rfl : ad115 = ad117 := (by injection e117)
                            obtain ⟨ce117, hce117, hMe117, hcc117⟩ := Kd.S_get HO_4.out [] 0 p117 (by first | exact q117 | exact of_decide_eq_true (by first | (with_reducible assumption) | assumption) | (have e_ := (Kd.S_reads' HO_4.out).1; omega))
                            obtain ⟨ve117_0, rfl, ge117_0⟩ := hMe117
                            have hv117_0 := hcc117 0 _ rfl
                            rw [Nat.add_zero, show ((Kd.slice 5 (Kd.int .u8))).sz = 1 from rfl, Nat.mul_one] at hv117_0
                            replace hv117_0 := Option.some.inj (hv117_0.symm.trans hx117_0)
                            rw [hv117_0] at ge117_0
                            have HL117_0 := Aside0.mk (show Kd.R (Kd.int .u8) 5 _ _ _ _ (rd_L1 t108 0) from ge117_0)
                            clear hv117_0 ge117_0
                            clear hcc117 hce117
                            have qi117 : (0 < t108.length) = True := eq_true (by omega)
                            (try rw [show ((0 : Int)).toNat = 0 from rfl] at hx117_0)
                            (try rw [Addr.add_zero'] at hx117_0)
                            have HR117_0 := Aside0.mk hi117_0
                            have HC117_0 := Aside0.mk hl117_0
                            clear hi117_0 hl117_0
                            replace p117 := eq_true p117
                            replace q117 := eq_true q117
                            go_wp2_with (first | ((with_reducible refine gate_dst (N := 47) rfl ?_); refine Kd.R_make (Kd.int .u8) _ 5 rfl (N := 47) rfl 31 _ _ rfl ((rd_L1 t108 0).length : Int) rfl rfl Try.underlying31 (.int .u8 0) 1 info5 rfl (by decide) (by omega) 0 (ok := fun _ => True) (okp := fun _ => True) rfl (fun _ hk => hk) trivial (of_decide_eq_true (by first | (with_reducible assumption) | assumption)) (Nat.le_trans (Nat.mul_le_mul_right _ (of_decide_eq_true (by first | (with_reducible assumption) | assumption) : ((rd_L1 t108 0).length : Int).toNat ≤ 281474976710656)) (by omega)) (Below.refl _ _) (Nat.le_refl _) ?_; intro v119 w20 ho21 hb hg_ hnew_; clear hg_ hnew_; (first | rw [← Ny118.out] at ho21 | (simp only [Int.reduceToNat] at ho21; rw [← Ny118.out] at ho21)); have n0_ := Aside0.mk (Kd.S_elder' (by (with_reducible repeat (first | apply Kd.S_alloc | apply Kd.S_drewN | apply Kd.S_drew)); exact HO_4.out) (Kd.R_base ho21) hb); have n1_ := Aside0.mk (Kd.R_below (by (with_reducible repeat (first | apply Kd.R_alloc | apply Kd.R_drewN | apply Kd.R_drew)); exact HO_5.out) hb); have n2_ := Aside0.mk (Kd.S_elder' (by (with_reducible repeat (first | apply Kd.S_alloc | apply Kd.S_drewN | apply Kd.S_drew)); exact HO_7.out) (Kd.R_base ho21) hb); have n3_ := Aside0.mk (Kd.R_elder' (by (with_reducible repeat (first | apply Kd.R_alloc | apply Kd.R_drewN | apply Kd.R_drew)); exact HL117_0.out) (Kd.R_base ho21) hb); have n4_ := Aside0.mk (Kd.R_lower (Kd.R_new' ho21 (Kd.R_lt (by (with_reducible repeat (first | apply Kd.R_alloc | apply Kd.R_drewN | apply Kd.R_drew)); exact HL117_0.out))) (below_size (by repeat (first | (with_reducible first | exact HB.out | apply below_alloc | apply pw_below_drewN | apply below_drew1) | exact HB.out)))); have n5_ := Aside0.mk (Kd.C_below (by repeat (first | (with_reducible exact HR117_0.out) | (with_reducible refine Kd.C_alloc ?_ _) | (with_reducible refine Kd.C_drewN ?_ _) | (with_reducible refine Kd.C_drew ?_) | exact HR117_0.out)) hb); have n6_ := Aside0.mk (below_step (by repeat (first | (with_reducible first | exact HB.out | apply below_alloc | apply pw_below_drewN | apply below_drew1) | exact HB.out)) hb); clear HO_4; clear HO_5; clear HO_7; clear HL117_0; clear HR117_0; clear HB; have HO_4 := n0_; have HO_5 := n1_; have HO_7 := n2_; have HL117_0 := n3_; have HO120 := n4_; have HR117_0 := n5_; have HB := n6_; clear n0_ n1_ n2_ n3_ n4_ n5_ n6_; clear hb ho21; have p19 : 0 ≤ (x26_1 : Int) := of_decide_eq_true (by first | (with_reducible assumption) | assumption); have q19 : (x26_1 : Int) < ((y118.length : Int) : Int) := of_decide_eq_true (by first | (with_reducible assumption) | assumption); obtain ⟨go19, co19, eo19, gb19, gl19, cl19, HG19⟩ := Kd.R_form HO120.out (by omega); (first | cases eo19 | (injection eo19 with ea_ en_ ec_; (first | subst ea_ | (injection ea_ with ea_; subst ea_)); subst ec_; clear en_)); have GB19 := Aside0.mk gb19; have GG19 := Aside0.mk HG19; clear gb19 gl19 HG19; obtain ⟨hx19_0, hf19_0⟩ := Kd.R_celln 0 HO120.out (x26_1 : Int) p19 q19; replace p19 := eq_true p19; replace q19 := eq_true q19; have n_ := Aside0.mk (Kd.R_mono (ok' := (fun k_ => some k_ ≠ (.slice A117_0 (rd_L1 t108 0).length c117_0 : Value).ownBlock)) HO120.out (fun k_ hk => hk.2)); clear HO120; have HO120 := n_; clear n_; obtain ⟨hy22_, hz22_⟩ := Kd.R_celln 0 HO120.out (x26_1 : Int) (of_decide_eq_true (by first | (with_reducible assumption) | assumption)) (of_decide_eq_true (by first | (with_reducible assumption) | assumption)); have HP22 := Kd.R_putg HO120.out (x26_1 : Int) 1) | ((with_reducible refine gate_store (t := 5) (p := 50) rfl ?_); refine store_event (t := 5) (p := 50) (v := ?vo_w23) (w1 := (w20.setCell ⟨go19, (x26_1 : Int).toNat, none⟩ (.int .u8 1))) ?hg ?ho ?hn ?hr ?_; (case ho => rfl); (case hg => rfl); (case hn => rfl); (case hr => first | (go_simp; done) | (go_simp; rfl)); intro w23 hw; have hg : w20.grownBy w23 (some go19) := (by rw [hw]; exact HP22.2); have hp_ : Kd.R (Kd.int .u8) 5 w23 w.heap.size (fun k_ => some k_ ≠ (.slice A117_0 (rd_L1 t108 0).length c117_0 : Value).ownBlock) (.slice (some ⟨go19, 0, none⟩) y118.length co19) y121 := (by rw [hw, Ny121.out]; exact HP22.1); clear HP22; have n0_ := Aside0.mk (Kd.S_after (v := (.slice (some ⟨go19, 0, none⟩) y118.length co19)) (v1 := (.slice (some ⟨go19, 0, none⟩) y118.length co19)) (ok := (fun k_ => some k_ ≠ (u7 : Value).ownBlock)) (by (with_reducible repeat (first | apply Kd.S_alloc | apply Kd.S_drewN | apply Kd.S_drew)); exact HO_4.out) hg (.inl rfl)); have n1_ := Aside0.mk (Kd.R_over' (v := (.slice (some ⟨go19, 0, none⟩) y118.length co19)) (by (with_reducible repeat (first | apply Kd.R_alloc | apply Kd.R_drewN | apply Kd.R_drew)); exact HO_5.out) (Kd.R_typed HO120.out) (by decide) hg); have n2_ := Aside0.mk (Kd.S_after (v := (.slice (some ⟨go19, 0, none⟩) y118.length co19)) (v1 := (.slice (some ⟨go19, 0, none⟩) y118.length co19)) (ok := (fun k_ => some k_ ≠ (.slice (some ad115) t108.length co6 : Value).ownBlock)) (by (with_reducible repeat (first | apply Kd.S_alloc | apply Kd.S_drewN | apply Kd.S_drew)); exact HO_7.out) hg (.inl rfl)); have n3_ := Aside0.mk (Kd.R_after (v := (.slice (some ⟨go19, 0, none⟩) y118.length co19)) (v1 := (.slice (some ⟨go19, 0, none⟩) y118.length co19)) (ok := (fun k_ => some k_ ≠ (.slice (some ad115) t108.length co6 : Value).ownBlock ∧ some k_ ≠ (u7 : Value).ownBlock)) (by (with_reducible repeat (first | apply Kd.R_alloc | apply Kd.R_drewN | apply Kd.R_drew)); exact Kd.R_mono HL117_0.out (fun _ hk => ⟨⟨hk.1.2, hk.1.1⟩, hk.2⟩)) hg (.inl rfl)); have n4_ := Aside0.mk (hp_); have n5_ := Aside0.mk ((by rw [hw]; exact below_set (HB.out) GB19.out : Below w.heap.size w w23)); clear HO_4; clear HO_5; clear HO_7; clear HL117_0; clear HO120; clear HB; have HO_4 := n0_; have HO_5 := n1_; have HO_7 := n2_; have HL117_0 := n3_; have HO120 := n4_; have HB := n5_; clear n0_ n1_ n2_ n3_ n4_ n5_; clear hg hw hp_; obtain ⟨Ao24, co24, eo24⟩ := Kd.R_slice HO_5.out; subst eo24))
                            go_loopg [53] kj7 (fun kq v53 w' => ∃ (x10_3 : List Int) (x53_3 : Int), v53 = .int .i64 x53_3 ∧ Aside0 (matrix_Null.l1 kq t108 t109 x7_1 x8_1 x26_1 x10_3 ((rd_L1 t108 0).length : Int) x26_1 t109 (t109.length : Int) x53_3 = some (r1, r2)) ∧ Aside0 (kq ≤ kj7) ∧ Aside0 (Kd.S (Kd.slice 5 (Kd.int .u8)) 31 w' w.heap.size (fun k_ => some k_ ≠ (u7 : Value).ownBlock ∧ some k_ ≠ ((.slice (some ⟨go19, 0, none⟩) y118.length co19) : Value).ownBlock) (.slice (some ad115) t108.length co6) t108) ∧ Aside0 (Kd.R (Kd.int .i64) 3 w' w.heap.size (fun _ => True) (.slice Ao24 t109.length co24) t109) ∧ Aside0 (Kd.S (Kd.slice 5 (Kd.int .u8)) 31 w' w.heap.size (fun k_ => some k_ ≠ ((.slice (some ad115) t108.length co6) : Value).ownBlock ∧ some k_ ≠ ((.slice (some ⟨go19, 0, none⟩) y118.length co19) : Value).ownBlock) u7 x7_1) ∧ Aside0 (Kd.R (Kd.int .u8) 5 w' w.heap.size (fun _ => True) (.slice (some ⟨go19, 0, none⟩) y118.length co19) x10_3) ∧ Aside0 (Kd.R (Kd.int .i64) 3 w' w.heap.size (fun _ => True) (.slice Ao24 t109.length co24) t109) ∧ Aside0 (Below w.heap.size w w'))
                            case atStart => exact ⟨(y121), (0), (by first | rfl | (simp; done) | (simp [*]; done)), H', ⟨Nat.le_refl _⟩, ⟨by (with_reducible repeat (first | apply Kd.S_alloc | apply Kd.S_drewN | apply Kd.S_drew)); exact HO_4.out⟩, ⟨by (with_reducible repeat (first | apply Kd.R_alloc | apply Kd.R_drewN | apply Kd.R_drew)); exact HO_5.out⟩, ⟨by (with_reducible repeat (first | apply Kd.S_alloc | apply Kd.S_drewN | apply Kd.S_drew)); exact HO_7.out⟩, ⟨by (with_reducible repeat (first | apply Kd.R_alloc | apply Kd.R_drewN | apply Kd.R_drew)); exact Kd.R_mono HO120.out (fun _ hk => trivial)⟩, ⟨by (with_reducible repeat (first | apply Kd.R_alloc | apply Kd.R_drewN | apply Kd.R_drew)); exact HO_5.out⟩, ⟨by repeat (first | (with_reducible first | exact HB.out | apply below_alloc | apply pw_below_drewN | apply below_drew1) | exact HB.out)⟩⟩
                            case round =>
                              clear H'
                              try clear c1
                              try clear p1
                              try clear q1
                              try clear hx1
                              try clear qi1
                              try clear hf1
                              try clear c2
                              try clear p2
                              try clear c3
                              try clear c3b0
                              try clear c3b1
                              try clear c4
                              try clear c4b0
                              try clear c4b1
                              try clear p6
                              try clear c7
                              try clear c7b0
                              try clear p8
                              try clear c9
                              try clear c9b0
                              try clear c10
                              try clear c10b0
                              try clear c11
                              try clear p11
                              try clear q11
                              try clear hx11
                              try clear qi11
                              try clear c13
                              try clear c14
                              try clear c14b0
                              try clear c14b1
                              try clear c15
                              try clear c15b0
                              try clear c15b1
                              try clear c16
                              try clear c16b0
                              try clear c16b1
                              try clear c17
                              try clear c17b0
                              try clear c18
                              try clear c18b0
                              try clear p19
                              try clear q19
                              try clear hx19
                              try clear hf19
                              try clear c23
                              try clear hx115_0
                              try clear hx116_0
                              try clear hx117_0
                              try clear hx19_0
                              try clear p1
                              try clear p11
                              try clear p115
                              try clear p116
                              try clear p117
                              try clear p19
                              try clear p2
                              try clear p8
                              try clear q1
                              try clear q11
                              try clear q115
                              try clear q116
                              try clear q117
                              try clear q19
                              obtain ⟨x10_3, x53_3, rfl, HA, HK3, HO_4, HO_5, HO_7, HO_10, HO_51, HB⟩ := hrel
                              have hl10_3 := (Kd.R_reads' HO_10.out).1
                              rw [hl10_3] at HO_10
                              (try simp only [hl10_3])
                              (try simp only [hl10_3] at HO_4)
                              (try simp only [hl10_3] at HO_5)
                              (try simp only [hl10_3] at HO_7)
                              (try simp only [hl10_3] at HO_51)
                              cases gk with
                              | zero => exact absurd HA.out (by simp [matrix_Null.l1])
                              | succ k3 =>
                                have H := HA.out
                                clear HA
                                simp only [matrix_Null.l1] at H
                                by_cases c25 : x53_3 < (t109.length : Int)
                                · rw [if_pos c25] at H
                                  have c25b0 : decide (x53_3 < (t109.length : Int)) = true := decide_eq_true c25
                                  (try simp only [hl10_3] at c25b0)
                                  clear c25
                                  by_cases c26 : 0 ≤ x53_3
                                  · rw [if_pos c26] at H
                                    have c26b0 : decide (0 ≤ x53_3) = true := decide_eq_true c26
                                    (try simp only [hl10_3] at c26b0)
                                    clear c26
                                    by_cases c27 : x53_3 < (t109.length : Int)
                                    · rw [if_pos c27] at H
                                      have c27b0 : decide (x53_3 < (t109.length : Int)) = true := decide_eq_true c27
                                      (try simp only [hl10_3] at c27b0)
                                      clear c27
                                      by_cases c28 : x53_3 < (t108.length : Int)
                                      · rw [if_pos c28] at H
                                        have c28b0 : decide (x53_3 < (t108.length : Int)) = true := decide_eq_true c28
                                        (try simp only [hl10_3] at c28b0)
                                        clear c28
                                        by_cases c29 : 0 ≤ x26_1
                                        · rw [if_pos c29] at H
                                          have c29b0 : decide (0 ≤ x26_1) = true := decide_eq_true c29
                                          (try simp only [hl10_3] at c29b0)
                                          clear c29
                                          by_cases c30 : x26_1 < ((rd_L1 t108 x53_3).length : Int)
                                          · rw [if_pos c30] at H
                                            have c30b0 : decide (x26_1 < ((rd_L1 t108 x53_3).length : Int)) = true := decide_eq_true c30
                                            (try simp only [hl10_3] at c30b0)
                                            clear c30
                                            by_cases c31 : 0 ≤ (rd t109 x53_3)
                                            · rw [if_pos c31] at H
                                              have c31b0 : decide (0 ≤ (rd t109 x53_3)) = true := decide_eq_true c31
                                              (try simp only [hl10_3] at c31b0)
                                              clear c31
                                              by_cases c32 : (rd t109 x53_3) < (x10_3.length : Int)
                                              · rw [if_pos c32] at H
                                                have c32b0 : decide ((rd t109 x53_3) < (x10_3.length : Int)) = true := decide_eq_true c32
                                                (try simp only [hl10_3] at c32b0)
                                                clear c32
                                                obtain ⟨y125, hy125⟩ : ∃ y_ : List Int, y_ = (x10_3.set ((rd t109 x53_3) : Int).toNat (rd (rd_L1 t108 x53_3) x26_1)) := ⟨_, rfl⟩
                                                replace H : (matrix_Null.l1 k3 t108 t109 x7_1 x8_1 x26_1 y125 ((rd_L1 t108 0).length : Int) x26_1 t109 (t109.length : Int) (wrap64 (x53_3 + 1))) = some (r1, r2) := by first | (rw [hy125]; with_reducible exact H) | (have H2_ := (Option.bind_some _ _).symm.trans H; rw [hy125]; with_reducible exact H2_) | (have H2_ := (Option.bind_some _ _).symm.trans H; with_reducible exact H2_) | with_reducible exact H | (rw [hy125]; exact H) | exact H
                                                have Ny125 := Aside0.mk hy125
                                                clear hy125
                                                have H' := Aside0.mk H
                                                clear H
                                                have p122 : 0 ≤ (x53_3 : Int) := of_decide_eq_true (by first | (with_reducible assumption) | assumption)
                                                have q122 : x53_3 < (t109.length : Int) := of_decide_eq_true (by first | (with_reducible assumption) | assumption)
                                                obtain ⟨ad122, e122, hx122_0⟩ := Kd.at_int (Kd.R_reads' HO_51.out).2.2 x53_3 p122 q122
                                                cases e122
                                                replace p122 := eq_true p122
                                                replace q122 := eq_true q122
                                                have p123 : 0 ≤ (x53_3 : Int) := of_decide_eq_true (by first | (with_reducible assumption) | assumption)
                                                have q123 : x53_3 < (t108.length : Int) := of_decide_eq_true (by first | (with_reducible assumption) | assumption)
                                                obtain ⟨ad123, A123_0, c123_0, e123, hx123_0, hl123_0, hi123_0⟩ := at_L1 (Kd.S_reads' HO_4.out).2.2 x53_3 p123 q123
                                                obtain rfl : ad115 = ad123 := (by injection e123)
                                                obtain ⟨ce123, hce123, hMe123, hcc123⟩ := Kd.S_get HO_4.out [] x53_3 p123 (by first | exact q123 | exact of_decide_eq_true (by first | (with_reducible assumption) | assumption) | (have e_ := (Kd.S_reads' HO_4.out).1; omega))
                                                obtain ⟨ve123_0, rfl, ge123_0⟩ := hMe123
                                                have hv123_0 := hcc123 0 _ rfl
                                                rw [Nat.add_zero, show ((Kd.slice 5 (Kd.int .u8))).sz = 1 from rfl, Nat.mul_one] at hv123_0
                                                replace hv123_0 := Option.some.inj (hv123_0.symm.trans hx123_0)
                                                rw [hv123_0] at ge123_0
                                                have HL123_0 := Aside0.mk (show Kd.R (Kd.int .u8) 5 _ _ _ _ (rd_L1 t108 x53_3) from ge123_0)
                                                clear hv123_0 ge123_0
                                                clear hcc123 hce123
                                                have HR123_0 := Aside0.mk hi123_0
                                                have HC123_0 := Aside0.mk hl123_0
                                                clear hi123_0 hl123_0
                                                replace p123 := eq_true p123
                                                replace q123 := eq_true q123
                                                have p124 : 0 ≤ (x26_1 : Int) := of_decide_eq_true (by first | (with_reducible assumption) | assumption)
                                                have q124 : x26_1 < ((rd_L1 t108 x53_3).length : Int) := of_decide_eq_true (by first | (with_reducible assumption) | assumption)
                                                obtain ⟨ad124, e124, hx124_0⟩ := Kd.at_int (by repeat (first | (with_reducible exact HR123_0.out) | (with_reducible refine Kd.C_alloc ?_ _) | (with_reducible refine Kd.C_drewN ?_ _) | (with_reducible refine Kd.C_drew ?_) | exact HR123_0.out)) x26_1 p124 q124
                                                cases e124
                                                replace p124 := eq_true p124
                                                replace q124 := eq_true q124
                                                have p33 : 0 ≤ ((rd t109 x53_3) : Int) := of_decide_eq_true (by first | (with_reducible assumption) | assumption)
                                                have q33 : ((rd t109 x53_3) : Int) < ((x10_3.length : Int) : Int) := of_decide_eq_true (by first | (with_reducible assumption) | assumption)
                                                obtain ⟨hx33_0, hf33_0⟩ := Kd.R_celln 0 HO_10.out ((rd t109 x53_3) : Int) p33 q33
                                                replace p33 := eq_true p33
                                                replace q33 := eq_true q33
                                                have HP34 := Kd.R_putg HO_10.out ((rd t109 x53_3) : Int) (rd (rd_L1 t108 x53_3) x26_1)
                                                go_wp2_with (first | ((with_reducible refine gate_store (t := 5) (p := 67) rfl ?_); refine store_event (t := 5) (p := 67) (v := ?vo_w35) (w1 := (wr.setCell ⟨go19, ((rd t109 x53_3) : Int).toNat, none⟩ (.int .u8 (rd (rd_L1 t108 x53_3) x26_1)))) ?hg ?ho ?hn ?hr ?_; (case ho => rfl); (case hg => rfl); (case hn => rfl); (case hr => first | (go_simp; done) | (go_simp; rfl)); intro w35 hw; have hg : wr.grownBy w35 (some go19) := (by rw [hw]; exact HP34.2); have hp_ : Kd.R (Kd.int .u8) 5 w35 w.heap.size (fun _ => True) (.slice (some ⟨go19, 0, none⟩) x10_3.length co19) y125 := (by rw [hw, Ny125.out]; exact HP34.1); clear HP34; have n0_ := Aside0.mk (Kd.S_after (v := (.slice (some ⟨go19, 0, none⟩) x10_3.length co19)) (v1 := (.slice (some ⟨go19, 0, none⟩) x10_3.length co19)) (ok := (fun k_ => some k_ ≠ (u7 : Value).ownBlock)) (by (with_reducible repeat (first | apply Kd.S_alloc | apply Kd.S_drewN | apply Kd.S_drew)); exact HO_4.out) hg (.inl rfl)); have n1_ := Aside0.mk (Kd.R_over' (v := (.slice (some ⟨go19, 0, none⟩) x10_3.length co19)) (by (with_reducible repeat (first | apply Kd.R_alloc | apply Kd.R_drewN | apply Kd.R_drew)); exact HO_5.out) (Kd.R_typed HO_10.out) (by decide) hg); have n2_ := Aside0.mk (Kd.S_after (v := (.slice (some ⟨go19, 0, none⟩) x10_3.length co19)) (v1 := (.slice (some ⟨go19, 0, none⟩) x10_3.length co19)) (ok := (fun k_ => some k_ ≠ (.slice (some ad115) t108.length co6 : Value).ownBlock)) (by (with_reducible repeat (first | apply Kd.S_alloc | apply Kd.S_drewN | apply Kd.S_drew)); exact HO_7.out) hg (.inl rfl)); have n3_ := Aside0.mk (hp_); have n4_ := Aside0.mk (Kd.R_over' (v := (.slice (some ⟨go19, 0, none⟩) x10_3.length co19)) (by (with_reducible repeat (first | apply Kd.R_alloc | apply Kd.R_drewN | apply Kd.R_drew)); exact HO_51.out) (Kd.R_typed HO_10.out) (by decide) hg); have n5_ := Aside0.mk (Kd.R_after (v := (.slice (some ⟨go19, 0, none⟩) x10_3.length co19)) (v1 := (.slice (some ⟨go19, 0, none⟩) x10_3.length co19)) (ok := (fun k_ => some k_ ≠ (.slice (some ad115) t108.length co6 : Value).ownBlock ∧ some k_ ≠ (u7 : Value).ownBlock)) (by (with_reducible repeat (first | apply Kd.R_alloc | apply Kd.R_drewN | apply Kd.R_drew)); exact Kd.R_mono HL123_0.out (fun _ hk => ⟨⟨hk.2, hk.1.1⟩, hk.1.2⟩)) hg (.inl rfl)); have n6_ := Aside0.mk ((by rw [hw]; exact below_set (HB.out) GB19.out : Below w.heap.size w w35)); clear HO_4; clear HO_5; clear HO_7; clear HO_10; clear HO_51; clear HL123_0; clear HB; have HO_4 := n0_; have HO_5 := n1_; have HO_7 := n2_; have HO_10 := n3_; have HO_51 := n4_; have HL123_0 := n5_; have HB := n6_; clear n0_ n1_ n2_ n3_ n4_ n5_ n6_; clear hg hw hp_))
                                                (try simp only [← hl10_3])
                                                go_roundg k3
                                                case measure => have := HK1.out; have := HJ7.out; have := HK3.out; omega
                                                case rel => exact ⟨(y125), (wrap64 (x53_3 + 1)), (by first | rfl | (simp; done) | (simp [*]; done)), H', ⟨by have := HK1.out; have := HJ7.out; have := HK3.out; omega⟩, ⟨by (try simp only [hl10_3]); (with_reducible repeat (first | apply Kd.S_alloc | apply Kd.S_drewN | apply Kd.S_drew)); exact HO_4.out⟩, ⟨by (try simp only [hl10_3]); (with_reducible repeat (first | apply Kd.R_alloc | apply Kd.R_drewN | apply Kd.R_drew)); exact HO_5.out⟩, ⟨by (try simp only [hl10_3]); (with_reducible repeat (first | apply Kd.S_alloc | apply Kd.S_drewN | apply Kd.S_drew)); exact HO_7.out⟩, ⟨by (try simp only [hl10_3]); (with_reducible repeat (first | apply Kd.R_alloc | apply Kd.R_drewN | apply Kd.R_drew)); exact HO_10.out⟩, ⟨by (try simp only [hl10_3]); (with_reducible repeat (first | apply Kd.R_alloc | apply Kd.R_drewN | apply Kd.R_drew)); exact HO_51.out⟩, ⟨by repeat (first | (with_reducible first | exact HB.out | apply below_alloc | apply pw_below_drewN | apply below_drew1) | exact HB.out)⟩⟩
                                              · rw [if_neg c32] at H
                                                exact absurd H (by simp)
                                            · rw [if_neg c31] at H
                                              exact absurd H (by simp)
                                          · rw [if_neg c30] at H
                                            exact absurd H (by simp)
                                        · rw [if_neg c29] at H
                                          exact absurd H (by simp)
                                      · rw [if_neg c28] at H
                                        exact absurd H (by simp)
                                    · rw [if_neg c27] at H
                                      exact absurd H (by simp)
                                  · rw [if_neg c26] at H
                                    exact absurd H (by simp)
                                · rw [if_neg c25] at H
                                  have c25b0 : decide (x53_3 < (t109.length : Int)) = false := decide_eq_false c25
                                  (try simp only [hl10_3] at c25b0)
                                  clear c25
                                  by_cases c36 : x7_1.length < 5864062014805
                                  · rw [if_pos c36] at H
                                    have LMc36 := Aside0.mk c36
                                    clear c36
                                    obtain ⟨y126, hy126⟩ : ∃ y_ : List (List Int), y_ = (x7_1 ++ [x10_3]) := ⟨_, rfl⟩
                                    replace H : (matrix_Null.l0 k3 t108 t109 y126 x8_1 ((rd_L1 t108 0).length : Int) (wrap64 (x26_1 + 1))) = some (r1, r2) := by first | (rw [hy126]; with_reducible exact H) | (have H2_ := (Option.bind_some _ _).symm.trans H; rw [hy126]; with_reducible exact H2_) | (have H2_ := (Option.bind_some _ _).symm.trans H; with_reducible exact H2_) | with_reducible exact H | (rw [hy126]; exact H) | exact H
                                    have Ny126 := Aside0.mk hy126
                                    clear hy126
                                    have H' := Aside0.mk H
                                    clear H
                                    go_wp2_with (first | ((with_reducible refine gate_builtin (b := .append) (xs := #[.tmp 69, .tmp 71]) rfl ?_); at_builtin; refine Kd.S_append (Kd.slice 5 (Kd.int .u8)) (w0 := w) w.heap.size rfl (.tmp 69) (.tmp 71) 22 31 (.slice none 0 0) 24 rfl Try.underlying22 info31 rfl (by decide) (by omega) u7 x7_1 x10_3 [.slice (some ⟨go19, 0, none⟩) x10_3.length co19] (fun k_ => some k_ ≠ (.slice (some ad115) t108.length co6 : Value).ownBlock) (fun k_ => some k_ = (.slice (some ⟨go19, 0, none⟩) x10_3.length co19 : Value).ownBlock) rfl rfl ?aP (fun k_ hk_ => ((Kd.R_mono (ok' := fun k_ => ((fun k_ => some k_ ≠ (.slice (some ad115) t108.length co6 : Value).ownBlock)) k_ ∧ some k_ ≠ (u7 : Value).ownBlock) (Kd.R_apart' (Kd.R_apart' (HO_10.out) (Kd.S_typed HO_4.out) (by decide)) (Kd.S_typed HO_7.out) (by decide)) (fun k_ hk => ⟨hk.1.2, hk.2⟩))).1 k_ hk_.symm) ?aF ?aO ?aB ?aS ?aL ?_; (case aP => exact Kd.M_row (Kd.R_mono (Kd.R_tight rfl (Kd.R_mono (ok' := fun k_ => ((fun k_ => some k_ ≠ (.slice (some ad115) t108.length co6 : Value).ownBlock)) k_ ∧ some k_ ≠ (u7 : Value).ownBlock) (Kd.R_apart' (Kd.R_apart' (HO_10.out) (Kd.S_typed HO_4.out) (by decide)) (Kd.S_typed HO_7.out) (by decide)) (fun k_ hk => ⟨hk.1.2, hk.2⟩))) (fun _ h_ => h_))); (case aB => exact (by repeat (first | (with_reducible first | exact HB.out | apply below_alloc | apply pw_below_drewN | apply below_drew1) | exact HB.out))); (case aF => exact (fun k_ hk => Kd.fresh' (Kd.S_lt (by (with_reducible repeat (first | apply Kd.S_alloc | apply Kd.S_drewN | apply Kd.S_drew)); exact HO_4.out)) k_ hk)); (case aO => exact (by (with_reducible repeat (first | apply Kd.S_alloc | apply Kd.S_drewN | apply Kd.S_drew)); exact Kd.S_mono HO_7.out (fun k_ hk => ⟨hk.1, fun e_ => hk.2 e_⟩))); (case aS => exact (below_size (by repeat (first | (with_reducible first | exact HB.out | apply below_alloc | apply pw_below_drewN | apply below_drew1) | exact HB.out)))); (case aL => have := LMc36.out; omega); intro v127 w37 ho hb hg hat; rw [← Ny126.out] at ho; have n0_ := Aside0.mk (Kd.S_after (ok := (fun k_ => some k_ ≠ (.slice (some ⟨go19, 0, none⟩) x10_3.length co19 : Value).ownBlock)) (by (with_reducible repeat (first | apply Kd.S_alloc | apply Kd.S_drewN | apply Kd.S_drew)); exact Kd.S_mono HO_4.out (fun _ hk => ⟨hk.2, hk.1⟩)) hg hat); have n1_ := Aside0.mk (Kd.R_over' (by (with_reducible repeat (first | apply Kd.R_alloc | apply Kd.R_drewN | apply Kd.R_drew)); exact HO_5.out) (Kd.S_typed (by (with_reducible repeat (first | apply Kd.S_alloc | apply Kd.S_drewN | apply Kd.S_drew)); exact HO_7.out)) (by decide) hg); have n2_ := Aside0.mk (Kd.R_over' (by (with_reducible repeat (first | apply Kd.R_alloc | apply Kd.R_drewN | apply Kd.R_drew)); exact HO_51.out) (Kd.S_typed (by (with_reducible repeat (first | apply Kd.S_alloc | apply Kd.S_drewN | apply Kd.S_drew)); exact HO_7.out)) (by decide) hg); have n3_ := Aside0.mk (hb); have n4_ := Aside0.mk (ho); clear HO_4; clear HO_5; clear HO_51; clear HB; clear HO_7; clear HO_10; have HO_4 := n0_; have HO_5 := n1_; have HO_51 := n2_; have HB := n3_; have HO128 := n4_; clear n0_ n1_ n2_ n3_ n4_; clear ho hb hg hat))
                                    (try simp only [← hl10_3])
                                    go_roundg k3
                                    case measure => have := HK1.out; have := HJ7.out; have := HK3.out; omega
                                    case rel => exact ⟨(y126), (x8_1), (wrap64 (x26_1 + 1)), (by first | rfl | (simp; done) | (simp [*]; done)), (by first | rfl | (simp; done) | (simp [*]; done)), H', ⟨by have := HK1.out; have := HJ7.out; have := HK3.out; omega⟩, ⟨by (try simp only [hl10_3]); (with_reducible repeat (first | apply Kd.S_alloc | apply Kd.S_drewN | apply Kd.S_drew)); exact Kd.S_mono HO_4.out (fun _ hk => hk.2)⟩, ⟨by (try simp only [hl10_3]); (with_reducible repeat (first | apply Kd.R_alloc | apply Kd.R_drewN | apply Kd.R_drew)); exact HO_5.out⟩, ⟨by (try simp only [hl10_3]); (with_reducible repeat (first | apply Kd.S_alloc | apply Kd.S_drewN | apply Kd.S_drew)); exact HO128.out⟩, ⟨by repeat (first | (with_reducible first | exact HB.out | apply below_alloc | apply pw_below_drewN | apply below_drew1) | exact HB.out)⟩⟩
                                  · rw [if_neg c36] at H
                                    exact absurd H (by simp)
                          · rw [if_neg c18] at H
                            exact absurd H (by simp)
                        · rw [if_neg c17] at H
                          exact absurd H (by simp)
                      · rw [if_neg c16] at H
                        exact absurd H (by simp)
                    · rw [if_neg c15] at H
                      exact absurd H (by simp)
                  · rw [if_neg c14] at H
                    exact absurd H (by simp)
          · rw [if_neg c7] at H
            have c7b0 : decide (x26_1 < ((rd_L1 t108 0).length : Int)) = false := decide_eq_false c7
            clear c7
            simp only [Option.some.injEq, Prod.mk.injEq] at H
            obtain ⟨rfl, rfl⟩ := H
            go_wp2
            go_ret2
            exact ⟨_, by first | rfl | (simp [errW_none, errW_some] <;> rfl) | (simp [*, errW_none, errW_some] <;> rfl), by (with_reducible repeat (first | apply Kd.S_alloc | apply Kd.S_drewN | apply Kd.S_drew)); exact Kd.S_mono HO_7.out (fun _ hk => trivial), by repeat (first | (with_reducible first | exact HB.out | apply below_alloc | apply pw_below_drewN | apply below_drew1) | exact HB.out)⟩
    · rw [if_neg c4] at H
      exact absurd H (by simp)
  · rw [if_neg c3] at H
    have c3b0 : (t110 == 0) = false := beq_eq_false_iff_ne.mpr c3
    have c3b1 : (t110 != 0) = true := bne_iff_ne.mpr c3
    simp only [Option.some.injEq, Prod.mk.injEq] at H
    obtain ⟨rfl, rfl⟩ := H
    go_enter Try.func28, Try.ntmps28
    go_wp2_with (first | ((with_reducible refine gate_callee (f := 23) rfl ?_); refine goesL_ (some 15) rfl rfl Try.func23 (by kernel_rfl) rfl #[.slice A0 l0.length c0] rfl (by (try simp only [List.map_toArray, List.map_cons, List.map_nil]); first | done | rfl | (simp only [tb_wrap8]; done) | (simp only [tb_wrap8]; rfl) | (simp only [List.length_drop, List.length_take]; rfl)) ?_; (with_reducible refine (matrix_Reduce.calls _ _ l0 t108 t109 t110 _ ?side1 ?side2 A2.out).mono ?_); (case side1 => repeat (first | exact HR0.out | (with_reducible refine Kd.C_alloc ?_ _) | (with_reducible refine Kd.C_drewN ?_ _) | (with_reducible refine Kd.C_drew ?_))); (case side2 => exact HC0.out); rintro e w38 ⟨v111, v113, rfl, ho0, ho1, hb⟩; refine ⟨_, rfl, ?_⟩; have n0_ := Aside0.mk (Kd.S_lower ho0 (below_size (by repeat (first | (with_reducible first | exact HB.out | apply below_alloc | apply pw_below_drewN | apply below_drew1) | exact HB.out)))); have n1_ := Aside0.mk (Kd.R_lower ho1 (below_size (by repeat (first | (with_reducible first | exact HB.out | apply below_alloc | apply pw_below_drewN | apply below_drew1) | exact HB.out)))); have n2_ := Aside0.mk (below_step (by repeat (first | (with_reducible first | exact HB.out | apply below_alloc | apply pw_below_drewN | apply below_drew1) | exact HB.out)) hb); clear HB; have HO112 := n0_; have HO114 := n1_; have HB := n2_; clear n0_ n1_ n2_; (try clear hb); (try clear hb2); (try clear hk); (try clear hi); (try clear ho0); (try clear ho1)))
    go_ret2
    exact ⟨_, by first | rfl | (simp [errW_none, errW_some] <;> rfl) | (simp [*, errW_none, errW_some] <;> rfl), by first | exact Kd.S_nil _ _ _ _ _ | exact Kd.N_nil _ _ _ _ _ | exact Kd.V_nil _ _ _ _ _ | exact Kd.Q_nil _ _ _ _ _ | exact Kd.R_nil _ _ _ _ _, by repeat (first | (with_reducible first | exact HB.out | apply below_alloc | apply pw_below_drewN | apply below_drew1) | exact HB.out)⟩

end Go.Proofs.Ytidogckochpbgaa.B
