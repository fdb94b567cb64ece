-- Printed for this claim by mp.py, a program of its prover, through the kit's print. Lean checks it.
import Derived.Test.YtklkcenffajfeaaQx0
import Derived.Test.YtklkcenffajfeaaQx1
namespace Go.Proofs.Ytklkcenffajfeaa.Q
open Go.RowKit Go.Proofs.YtklkcenffajfeaaW.PrintWords Go.Proofs.YtklkcenffajfeaaW.PrintLast Go.Proofs.YtklkcenffajfeaaW.PrintMore Go.Proofs.Ytklkcenffajfeaa.A
attribute [local go_sem] max2_int min2_int max_two min_two max_three min_three max_four min_four   -- for this text's walks alone
set_option linter.unusedVariables false
set_option linter.unusedSimpArgs false

/-! ### culletlaw15_summed: function 30 -/
mutual
def culletlaw15_summed.l0 : Nat → List Int → List Int → Int → List Int → Int → Int → Int → Option (Bool)
  | 0, _, _, _, _, _, _, _ => none
  | k + 1, x0, x1, x2, x7, x8, x26, x27 => if x27 < x26 then (if 0 ≤ x27 then (if x27 < (x0.length : Int) then (if x27 < (x1.length : Int) then ((culletlaw15_brought.f (wrap64 ((wrap64 (rd x0 x27)) + (wrap64 (x2 * (wrap64 (rd x1 x27))))))).bind fun t135 => (if x27 < (x7.length : Int) then (culletlaw15_summed.l0 k x0 x1 x2 (x7.set (x27 : Int).toNat t135) (Int.tmod (wrap64 (x8 + (wrap64 (t135)))) 65535) x26 (wrap64 (x27 + 1))) else (none))) else (none)) else (none)) else (none)) else ((culletlaw15_copied.f k x0).bind fun t138 => ((walsh_Transform.f t138).bind fun bt141 => ((culletlaw15_copied.f k x1).bind fun t145 => ((walsh_Transform.f t145).bind fun bt148 => ((walsh_Transform.f x7).bind fun bt152 => (if 0 ≤ (x0.length : Int) then (if ((x0.length : Int) : Int).toNat ≤ 140737488355328 then ((some (List.replicate ((x0.length : Int) : Int).toNat 0 : List Int)).bind fun y156 => (if (x0.length : Int) = 0 then (none) else (if 0 ≤ (Int.tmod x2 (x0.length : Int)) then (if (Int.tmod x2 (x0.length : Int)) < (y156.length : Int) then ((walsh_Transform.f (y156.set ((Int.tmod x2 (x0.length : Int)) : Int).toNat 1)).bind fun bt160 => (if bt141.2 = 0 then (if bt148.2 = 0 then (if bt152.2 = 0 then (if bt160.2 = 0 then (if (bt141.1.length : Int) = (x0.length : Int) then (if (bt148.1.length : Int) = (x0.length : Int) then (if (bt152.1.length : Int) = (x0.length : Int) then (culletlaw15_summed.j1 k x2 x8 bt141.1 bt148.1 bt152.1 bt160.1 ((bt160.1.length : Int) != (x0.length : Int))) else (culletlaw15_summed.j1 k x2 x8 bt141.1 bt148.1 bt152.1 bt160.1 true)) else (culletlaw15_summed.j1 k x2 x8 bt141.1 bt148.1 bt152.1 bt160.1 true)) else (culletlaw15_summed.j1 k x2 x8 bt141.1 bt148.1 bt152.1 bt160.1 true)) else (culletlaw15_summed.j1 k x2 x8 bt141.1 bt148.1 bt152.1 bt160.1 true)) else (culletlaw15_summed.j1 k x2 x8 bt141.1 bt148.1 bt152.1 bt160.1 true)) else (culletlaw15_summed.j1 k x2 x8 bt141.1 bt148.1 bt152.1 bt160.1 true)) else (culletlaw15_summed.j1 k x2 x8 bt141.1 bt148.1 bt152.1 bt160.1 true))) else (none)) else (none)))) else (none)) else (none)))))))
def culletlaw15_summed.j1 : Nat → Int → Int → List Int → List Int → List Int → List Int → Bool → Option (Bool)
  | 0, _, _, _, _, _, _, _ => none
  | k + 1, x2, x8, x10, x12, x14, x17, x128 => if x128 = true then (some false) else (culletlaw15_summed.l1 k x2 x8 x10 x12 x14 x17 (x14.length : Int) 0)
def culletlaw15_summed.l1 : Nat → Int → Int → List Int → List Int → List Int → List Int → Int → Int → Option (Bool)
  | 0, _, _, _, _, _, _, _, _ => none
  | k + 1, x2, x8, x10, x12, x14, x17, x130, x131 => if x131 < x130 then (if 0 ≤ x131 then (if x131 < (x14.length : Int) then (if x131 < (x10.length : Int) then (if x131 < (x12.length : Int) then ((culletlaw15_brought.f (wrap64 ((wrap64 (rd x10 x131)) + (wrap64 (x2 * (wrap64 (rd x12 x131))))))).bind fun t167 => (if (rd x14 x131) = t167 then (if x131 < (x17.length : Int) then (if (rd x17 x131) = 1 then (culletlaw15_summed.l1 k x2 x8 x10 x12 x14 x17 x130 (wrap64 (x131 + 1))) else (if (rd x17 x131) = 65534 then (culletlaw15_summed.l1 k x2 x8 x10 x12 x14 x17 x130 (wrap64 (x131 + 1))) else (some false))) else (none)) else (some false))) else (none)) else (none)) else (none)) else (none)) else (if 0 < (x14.length : Int) then (if (wrap64 (rd x14 0)) = x8 then (if 0 < (x17.length : Int) then (some ((rd x17 0) == 1)) else (none)) else (some false)) else (none))
end
def culletlaw15_summed.f (k : Nat) (l0 : List Int) (l1 : List Int) (a2 : Int) : Option (Bool) := if 0 ≤ (l0.length : Int) then (if ((l0.length : Int) : Int).toNat ≤ 140737488355328 then ((some (List.replicate ((l0.length : Int) : Int).toNat 0 : List Int)).bind fun y130 => (culletlaw15_summed.l0 k l0 l1 (Go.bits .and .i64 a2 65535) y130 0 (y130.length : Int) 0)) else (none)) else (none)
theorem culletlaw15_summed.mono_l : ∀ k, (∀ y0 y1 y2 y3 y4 y5 y6, LeO (culletlaw15_summed.l0 k y0 y1 y2 y3 y4 y5 y6) (culletlaw15_summed.l0 (k + 1) y0 y1 y2 y3 y4 y5 y6)) ∧ (∀ y0 y1 y2 y3 y4 y5 y6, LeO (culletlaw15_summed.j1 k y0 y1 y2 y3 y4 y5 y6) (culletlaw15_summed.j1 (k + 1) y0 y1 y2 y3 y4 y5 y6)) ∧ (∀ y0 y1 y2 y3 y4 y5 y6 y7, LeO (culletlaw15_summed.l1 k y0 y1 y2 y3 y4 y5 y6 y7) (culletlaw15_summed.l1 (k + 1) y0 y1 y2 y3 y4 y5 y6 y7))
  | 0 => ⟨fun _ _ _ _ _ _ _ r h => by simp [culletlaw15_summed.l0] at h, fun _ _ _ _ _ _ _ r h => by simp [culletlaw15_summed.j1] at h, fun _ _ _ _ _ _ _ _ r h => by simp [culletlaw15_summed.l1] at h⟩
  | k + 1 => by
    obtain ⟨ih0, ih1, ih2⟩ := culletlaw15_summed.mono_l k
    refine ⟨?_, ?_, ?_⟩
    · intro y0 y1 y2 y3 y4 y5 y6
      unfold culletlaw15_summed.l0
      repeat' first
      | (with_reducible exact ih0 _ _ _ _ _ _ _)
      | (with_reducible exact ih1 _ _ _ _ _ _ _)
      | (with_reducible exact ih2 _ _ _ _ _ _ _ _)
      | (with_reducible exact culletlaw15_copied.mono _ _)
      | (with_reducible exact LeO.refl _)
      | (with_reducible exact LeO.none _)
      | (with_reducible refine LeO.ite ?_ ?_)
      | (with_reducible refine LeO.bind ?_ (fun _ => ?_))
      | exact ih0 _ _ _ _ _ _ _
      | exact ih1 _ _ _ _ _ _ _
      | exact ih2 _ _ _ _ _ _ _ _
      | exact culletlaw15_copied.mono _ _
      | exact LeO.none _
      | refine LeO.ite ?_ ?_
      | refine LeO.bind ?_ (fun _ => ?_)
    · intro y0 y1 y2 y3 y4 y5 y6
      unfold culletlaw15_summed.j1
      repeat' first
      | (with_reducible exact ih0 _ _ _ _ _ _ _)
      | (with_reducible exact ih1 _ _ _ _ _ _ _)
      | (with_reducible exact ih2 _ _ _ _ _ _ _ _)
      | (with_reducible exact culletlaw15_copied.mono _ _)
      | (with_reducible exact LeO.refl _)
      | (with_reducible exact LeO.none _)
      | (with_reducible refine LeO.ite ?_ ?_)
      | (with_reducible refine LeO.bind ?_ (fun _ => ?_))
      | exact ih0 _ _ _ _ _ _ _
      | exact ih1 _ _ _ _ _ _ _
      | exact ih2 _ _ _ _ _ _ _ _
      | exact culletlaw15_copied.mono _ _
      | exact LeO.none _
      | refine LeO.ite ?_ ?_
      | refine LeO.bind ?_ (fun _ => ?_)
    · intro y0 y1 y2 y3 y4 y5 y6 y7
      unfold culletlaw15_summed.l1
      repeat' first
      | (with_reducible exact ih0 _ _ _ _ _ _ _)
      | (with_reducible exact ih1 _ _ _ _ _ _ _)
      | (with_reducible exact ih2 _ _ _ _ _ _ _ _)
      | (with_reducible exact culletlaw15_copied.mono _ _)
      | (with_reducible exact LeO.refl _)
      | (with_reducible exact LeO.none _)
      | (with_reducible refine LeO.ite ?_ ?_)
      | (with_reducible refine LeO.bind ?_ (fun _ => ?_))
      | exact ih0 _ _ _ _ _ _ _
      | exact ih1 _ _ _ _ _ _ _
      | exact ih2 _ _ _ _ _ _ _ _
      | exact culletlaw15_copied.mono _ _
      | exact LeO.none _
      | refine LeO.ite ?_ ?_
      | refine LeO.bind ?_ (fun _ => ?_)
theorem culletlaw15_summed.mono : ∀ a0 a1 a2 k, LeO (culletlaw15_summed.f k a0 a1 a2) (culletlaw15_summed.f (k + 1) a0 a1 a2) := by
  intro a0 a1 a2 k
  obtain ⟨ih0, ih1, ih2⟩ := culletlaw15_summed.mono_l k
  unfold culletlaw15_summed.f
  repeat' first
      | (with_reducible exact ih0 _ _ _ _ _ _ _)
      | (with_reducible exact ih1 _ _ _ _ _ _ _)
      | (with_reducible exact ih2 _ _ _ _ _ _ _ _)
      | (with_reducible exact culletlaw15_copied.mono _ _)
      | (with_reducible exact LeO.refl _)
      | (with_reducible exact LeO.none _)
      | (with_reducible refine LeO.ite ?_ ?_)
      | (with_reducible refine LeO.bind ?_ (fun _ => ?_))
      | exact ih0 _ _ _ _ _ _ _
      | exact ih1 _ _ _ _ _ _ _
      | exact ih2 _ _ _ _ _ _ _ _
      | exact culletlaw15_copied.mono _ _
      | exact LeO.none _
      | refine LeO.ite ?_ ?_
      | refine LeO.bind ?_ (fun _ => ?_)
def culletlaw15_summed.T7 : Bool × List (List Nat × List Nat) := (true, [([], []), ([], []), ([], []), ([], []), ([2, 3], [2, 3]), ([4], [4]), ([5], [5]), ([], []), ([], []), ([], []), ([8, 9], [8, 9]), ([10], [10]), ([11], [11]), ([7, 12], [7, 12]), ([6, 13], [6, 13]), ([14], [14]), ([0, 1, 0, 1, 2, 3, 4, 5, 6, 7, 8, 9, 10, 11, 12, 13, 14, 15], [0, 1]), ([16, 15, 15, 0, 1, 2, 3, 4, 5, 6, 7, 8, 9, 10, 11, 12, 13, 14, 15], [15, 16])])
def culletlaw15_summed.B7 : List Nat := [0, 0, 0, 0, 12, 28, 60, 0, 0, 0, 768, 1792, 3840, 8064, 16380, 32764, 65535, 131071]
theorem culletlaw15_summed.tab7 : rtab .any (opsOf Try.f30 7) = culletlaw15_summed.T7 := by kernel_rfl
theorem culletlaw15_summed.bits7 : waitsOk culletlaw15_summed.T7.2 culletlaw15_summed.B7 = true := by kernel_rfl
def culletlaw15_summed.T21 : Bool × List (List Nat × List Nat) := (true, [([], []), ([], []), ([0, 1], [0, 1]), ([2], [2]), ([], []), ([], []), ([4, 5], [4, 5]), ([6], [6]), ([7], [7]), ([], []), ([], []), ([], []), ([10, 11], [10, 11]), ([12], [12]), ([13], [13]), ([9, 14], [9, 14]), ([8, 15], [8, 15]), ([16], [16]), ([3, 17], [3, 17]), ([18, 17], [18]), ([19], [19]), ([19], [19]), ([20, 21, 19], [19, 20, 21]), ([22, 19], [19, 22]), ([23, 19], [19, 23]), ([24, 19, 19], [19, 24]), ([25], [25]), ([25], [25]), ([26, 27, 25], [25, 26, 27]), ([28, 25], [25, 28]), ([29, 25], [25, 29]), ([25, 30, 19], [19, 25, 30]), ([19, 31], [19, 31])])
def culletlaw15_summed.B21 : List Nat := [0, 0, 3, 7, 0, 0, 48, 112, 240, 0, 0, 0, 3072, 7168, 15360, 32256, 65520, 131056, 262143, 524287, 1048575, 1048575, 4194303, 8388607, 16777215, 33554431, 67108863, 67108863, 268435455, 536870911, 1073741823, 2147483647, 4294967295]
theorem culletlaw15_summed.tab21 : rtab .any (opsOf Try.f30 21) = culletlaw15_summed.T21 := by kernel_rfl
theorem culletlaw15_summed.bits21 : waitsOk culletlaw15_summed.T21.2 culletlaw15_summed.B21 = true := by kernel_rfl
set_option maxHeartbeats 8000000 in
set_option maxRecDepth 100000 in
theorem culletlaw15_summed.calls (k : Nat) (A0 : Option Addr) (c0 : Nat) (l0 : List Int) (A1 : Option Addr) (c1 : Nat) (l1 : List Int) (a2 : Int) (r : Bool) (w : World) (hr0 : Kd.C (Kd.int .u16) w A0 l0.length l0) (hc0 : l0.length ≤ c0) (hr1 : Kd.C (Kd.int .u16) w A1 l1.length l1) (hc1 : l1.length ≤ c1) (h : culletlaw15_summed.f k l0 l1 a2 = some r) :
    Calls Try.prog 30 #[.slice A0 l0.length c0, .slice A1 l1.length c1, .int .i64 a2] w fun e w' => e = .returned (.bool r) ∧ Below w.heap.size w w' := by
  have HR0 := Aside0.mk hr0
  have HC0 := Aside0.mk hc0
  clear hr0 hc0
  have HR1 := Aside0.mk hr1
  have HC1 := Aside0.mk hc1
  clear hr1 hc1
  have HB := Aside0.mk (Below.refl w.heap.size w)
  have H : (if 0 ≤ (l0.length : Int) then (if ((l0.length : Int) : Int).toNat ≤ 140737488355328 then ((some (List.replicate ((l0.length : Int) : Int).toNat 0 : List Int)).bind fun y130 => (culletlaw15_summed.l0 k l0 l1 (Go.bits .and .i64 a2 65535) y130 0 (y130.length : Int) 0)) else (none)) else (none)) = some r := h
  clear h
  by_cases c4 : 0 ≤ (l0.length : Int)
  · rw [if_pos c4] at H
    have c4b0 := eq_true c4
    have c4b1 : decide (0 ≤ (l0.length : Int)) = true := decide_eq_true c4
    clear c4
    by_cases c5 : ((l0.length : Int) : Int).toNat ≤ 140737488355328
    · rw [if_pos c5] at H
      have c5b0 := eq_true c5
      have c5b1 : decide (((l0.length : Int) : Int).toNat ≤ 140737488355328) = true := decide_eq_true c5
      clear c5
      obtain ⟨y130, hy130⟩ : ∃ y_ : List Int, y_ = (List.replicate ((l0.length : Int) : Int).toNat 0) := ⟨_, rfl⟩
      replace H : (culletlaw15_summed.l0 k l0 l1 (Go.bits .and .i64 a2 65535) y130 0 (y130.length : Int) 0) = some r := by first | (rw [hy130]; with_reducible exact H) | (have H2_ := (Option.bind_some _ _).symm.trans H; rw [hy130]; with_reducible exact H2_) | (have H2_ := (Option.bind_some _ _).symm.trans H; with_reducible exact H2_) | with_reducible exact H | (rw [hy130]; exact H) | exact H
      have Ny130 := Aside0.mk hy130
      clear hy130
      have H' := Aside0.mk H
      clear H
      go_enter Try.func30, Try.ntmps30
      go_wp2_with (first | ((with_reducible refine gate_dst (N := 24) rfl ?_); (try (refine gate_guard (by rfl) ?_; dsimp only)); refine Kd.R_make (Kd.int .u16) _ 33 rfl (N := 24) rfl 22 _ _ rfl (l0.length : Int) rfl rfl Try.underlying22 (.int .u16 0) 2 info33 rfl (by decide) (by omega) 0 (ok := fun _ => True) (okp := fun _ => True) rfl (fun _ hk => hk) trivial (of_decide_eq_true (by first | (with_reducible assumption) | assumption)) (Nat.le_trans (Nat.mul_le_mul_right _ (of_decide_eq_true (by first | (with_reducible assumption) | assumption) : (l0.length : Int).toNat ≤ 140737488355328)) (by omega)) (Below.refl _ _) (Nat.le_refl _) ?_; intro v131 w6 ho7 hb hg_ hnew_; clear hg_ hnew_; (first | rw [← Ny130.out] at ho7 | (simp only [Int.reduceToNat] at ho7; rw [← Ny130.out] at ho7)); have n0_ := Aside0.mk (Kd.R_lower ho7 (below_size (by repeat (first | (with_reducible first | exact HB.out | apply below_alloc | apply pw_below_drewN | apply below_drew1) | exact HB.out)))); have n1_ := Aside0.mk (below_step (by repeat (first | (with_reducible first | exact HB.out | apply below_alloc | apply pw_below_drewN | apply below_drew1) | exact HB.out)) hb); clear HB; have HO132 := n0_; have HB := n1_; clear n0_ n1_; clear hb ho7; obtain ⟨Ao8, co8, eo8⟩ := Kd.R_slice HO132.out; subst eo8))
      go_loopg [8, 27] k (fun kq v8 v27 w' => ∃ (x7_1 : List Int) (x8_1 : Int) (x27_1 : Int), v8 = .int .i64 x8_1 ∧ v27 = .int .i64 x27_1 ∧ Aside0 (culletlaw15_summed.l0 kq l0 l1 (Go.bits .and .i64 a2 65535) x7_1 x8_1 (y130.length : Int) x27_1 = some r) ∧ Aside0 (kq ≤ k) ∧ Aside0 (Kd.R (Kd.int .u16) 33 w' w.heap.size (fun _ => True) (.slice Ao8 y130.length co8) x7_1) ∧ Aside0 (Below w.heap.size w w'))
      case atStart => exact ⟨(y130), (0), (0), (by first | rfl | (simp; done) | (simp [*]; done)), (by first | rfl | (simp; done) | (simp [*]; done)), H', ⟨Nat.le_refl _⟩, ⟨by (with_reducible repeat (first | apply Kd.R_alloc | apply Kd.R_drewN | apply Kd.R_drew)); exact HO132.out⟩, ⟨by repeat (first | (with_reducible first | exact HB.out | apply below_alloc | apply pw_below_drewN | apply below_drew1) | exact HB.out)⟩⟩
      case round =>
        clear H'
        try clear c1
        try clear p2
        try clear c3
        try clear c4
        try clear c4b0
        try clear c4b1
        try clear c5
        try clear c5b0
        try clear c5b1
        obtain ⟨x7_1, x8_1, x27_1, rfl, rfl, HA, HK1, HO_7, HB⟩ := hrel
        have hl7_1 := (Kd.R_reads' HO_7.out).1
        rw [hl7_1] at HO_7
        (try simp only [hl7_1])
        cases gk with
        | zero => exact absurd HA.out (by simp [culletlaw15_summed.l0])
        | succ k1 =>
          have H := HA.out
          clear HA
          simp only [culletlaw15_summed.l0] at H
          by_cases c9 : x27_1 < (y130.length : Int)
          · rw [if_pos c9] at H
            have c9b0 : decide (x27_1 < (y130.length : Int)) = true := decide_eq_true c9
            (try simp only [hl7_1] at c9b0)
            clear c9
            by_cases c10 : 0 ≤ x27_1
            · rw [if_pos c10] at H
              have c10b0 : decide (0 ≤ x27_1) = true := decide_eq_true c10
              (try simp only [hl7_1] at c10b0)
              clear c10
              by_cases c11 : x27_1 < (l0.length : Int)
              · rw [if_pos c11] at H
                have c11b0 : decide (x27_1 < (l0.length : Int)) = true := decide_eq_true c11
                (try simp only [hl7_1] at c11b0)
                clear c11
                by_cases c12 : x27_1 < (l1.length : Int)
                · rw [if_pos c12] at H
                  have c12b0 : decide (x27_1 < (l1.length : Int)) = true := decide_eq_true c12
                  (try simp only [hl7_1] at c12b0)
                  clear c12
                  replace H := Option.bind_eq_some_iff.mp H
                  obtain ⟨t135, A130, H⟩ := H
                  replace H : (if x27_1 < (x7_1.length : Int) then (culletlaw15_summed.l0 k1 l0 l1 (Go.bits .and .i64 a2 65535) (x7_1.set (x27_1 : Int).toNat t135) (Int.tmod (wrap64 (x8_1 + (wrap64 (t135)))) 65535) (y130.length : Int) (wrap64 (x27_1 + 1))) else (none)) = some r := H
                  have A13 := Aside0.mk A130
                  clear A130
                  by_cases c14 : x27_1 < (x7_1.length : Int)
                  · rw [if_pos c14] at H
                    have c14b0 : decide (x27_1 < (x7_1.length : Int)) = true := decide_eq_true c14
                    (try simp only [hl7_1] at c14b0)
                    clear c14
                    obtain ⟨y136, hy136⟩ : ∃ y_ : List Int, y_ = (x7_1.set (x27_1 : Int).toNat t135) := ⟨_, rfl⟩
                    replace H : (culletlaw15_summed.l0 k1 l0 l1 (Go.bits .and .i64 a2 65535) y136 (Int.tmod (wrap64 (x8_1 + (wrap64 (t135)))) 65535) (y130.length : Int) (wrap64 (x27_1 + 1))) = some r := by first | (rw [hy136]; with_reducible exact H) | (have H2_ := (Option.bind_some _ _).symm.trans H; rw [hy136]; with_reducible exact H2_) | (have H2_ := (Option.bind_some _ _).symm.trans H; with_reducible exact H2_) | with_reducible exact H | (rw [hy136]; exact H) | exact H
                    have Ny136 := Aside0.mk hy136
                    clear hy136
                    have H' := Aside0.mk H
                    clear H
                    try go_wp2
                    have n0_ := Aside0.mk (Kd.R_drew HO_7.out)
                    have n1_ := Aside0.mk (below_drew1 HB.out)
                    clear HO_7
                    clear HB
                    have HO_7 := n0_
                    have HB := n1_
                    clear n0_ n1_
                    have p133 : 0 ≤ (x27_1 : Int) := of_decide_eq_true (by first | (with_reducible assumption) | assumption)
                    have q133 : x27_1 < (l0.length : Int) := of_decide_eq_true (by first | (with_reducible assumption) | assumption)
                    obtain ⟨ad133, e133, hx133_0⟩ := Kd.at_int HR0.out x27_1 p133 q133
                    have hw133_0 := hx133_0
                    cases e133
                    replace hx133_0 := (HB.out.cell (World.block_lt_of_cell? w _ hx133_0)).trans hx133_0
                    replace p133 := eq_true p133
                    replace q133 := eq_true q133
                    have p134 : 0 ≤ (x27_1 : Int) := of_decide_eq_true (by first | (with_reducible assumption) | assumption)
                    have q134 : x27_1 < (l1.length : Int) := of_decide_eq_true (by first | (with_reducible assumption) | assumption)
                    obtain ⟨ad134, e134, hx134_0⟩ := Kd.at_int HR1.out x27_1 p134 q134
                    have hw134_0 := hx134_0
                    cases e134
                    replace hx134_0 := (HB.out.cell (World.block_lt_of_cell? w _ hx134_0)).trans hx134_0
                    replace p134 := eq_true p134
                    replace q134 := eq_true q134
                    refine start_ (n := 18) (S := fun w' => w'.cell? (ad133.add (x27_1).toNat) = some (.int .u16 (rd l0 x27_1)) ∧ w'.cell? (ad134.add (x27_1).toNat) = some (.int .u16 (rd l1 x27_1))) (ds := [17]) #[false, false, false, false, false, false, false, false, false, false, false, false, false, false, false, false, false, false] (by kernel_rfl) rfl rfl ⟨((HB.out.cell (World.block_lt_of_cell? w _ hw133_0)).trans hw133_0), ((HB.out.cell (World.block_lt_of_cell? w _ hw134_0)).trans hw134_0)⟩ (fun hHeld => ?_); refine with_tabW culletlaw15_summed.tab7 culletlaw15_summed.bits7 (fun HT_ HW_ => ?_)
                    generalize wr.drew = w17 at HO_7 HB hx133_0 hx134_0 hHeld ⊢
                    refine pure_ (i := 0) (N := some 30) (v := ?_) (a' := ?_) #[true, false, false, false, false, false, false, false, false, false, false, false, false, false, false, false, false, false] rfl rfl (any_of HT_.out (by kernel_rfl)) (fun _ _ _ h => h) (Or.inl ⟨by rfl, ?_⟩) ?_ ?_
                    rotate_left
                    · intro w'
                      go_simp
                      with_reducible rfl
                    rotate_left
                    · simp only [Act.put, List.setIfInBounds_toArray, List.set_cons_zero, List.set_cons_succ, i64_w, i32_w]
                      rfl
                    refine pure_ (i := 1) (N := some 31) (v := ?_) (a' := ?_) #[true, true, false, false, false, false, false, false, false, false, false, false, false, false, false, false, false, false] rfl rfl (any_of HT_.out (by kernel_rfl)) (fun _ _ _ h => h) (Or.inl ⟨by rfl, ?_⟩) ?_ ?_
                    rotate_left
                    · intro w'
                      go_simp
                      with_reducible rfl
                    rotate_left
                    · simp only [Act.put, List.setIfInBounds_toArray, List.set_cons_zero, List.set_cons_succ, i64_w, i32_w]
                      rfl
                    refine pure_ (i := 2) (N := some 32) (v := ?_) (a' := ?_) #[true, true, true, false, false, false, false, false, false, false, false, false, false, false, false, false, false, false] rfl rfl (any_of HT_.out (by kernel_rfl)) (fun _ _ _ h => h) (Or.inl ⟨by rfl, ?_⟩) ?_ ?_
                    rotate_left
                    · intro w'
                      go_simp
                      with_reducible rfl
                    rotate_left
                    · simp only [Act.put, List.setIfInBounds_toArray, List.set_cons_zero, List.set_cons_succ, i64_w, i32_w]
                      rfl
                    refine pure_ (i := 3) (N := some 33) (v := ?_) (a' := ?_) #[true, true, true, true, false, false, false, false, false, false, false, false, false, false, false, false, false, false] rfl rfl (any_of HT_.out (by kernel_rfl)) (fun _ _ _ h => h) (Or.inl ⟨by rfl, ?_⟩) ?_ ?_
                    rotate_left
                    · intro w'
                      go_simp
                      with_reducible rfl
                    rotate_left
                    · simp only [Act.put, List.setIfInBounds_toArray, List.set_cons_zero, List.set_cons_succ, i64_w, i32_w]
                      rfl
                    refine pure_ (i := 4) (N := some 34) (v := ?_) (a' := ?_) #[true, true, true, true, true, false, false, false, false, false, false, false, false, false, false, false, false, false] rfl rfl (any_of HT_.out (by kernel_rfl)) (fun _ _ _ h => h) (Or.inl ⟨by rfl, ?_⟩) ?_ ?_
                    rotate_left
                    · intro w'
                      go_simp
                      with_reducible rfl
                    rotate_left
                    · simp only [Act.put, List.setIfInBounds_toArray, List.set_cons_zero, List.set_cons_succ, i64_w, i32_w]
                      rfl
                    refine pure_ (i := 7) (N := some 37) (v := ?_) (a' := ?_) #[true, true, true, true, true, false, false, true, false, false, false, false, false, false, false, false, false, false] rfl rfl (any_of HT_.out (by kernel_rfl)) (fun _ _ _ h => h) (Or.inl ⟨by rfl, ?_⟩) ?_ ?_
                    rotate_left
                    · intro w'
                      go_simp
                      with_reducible rfl
                    rotate_left
                    · simp only [Act.put, List.setIfInBounds_toArray, List.set_cons_zero, List.set_cons_succ, i64_w, i32_w]
                      rfl
                    refine pure_ (i := 8) (N := some 38) (v := ?_) (a' := ?_) #[true, true, true, true, true, false, false, true, true, false, false, false, false, false, false, false, false, false] rfl rfl (any_of HT_.out (by kernel_rfl)) (fun _ _ _ h => h) (Or.inl ⟨by rfl, ?_⟩) ?_ ?_
                    rotate_left
                    · intro w'
                      go_simp
                      with_reducible rfl
                    rotate_left
                    · simp only [Act.put, List.setIfInBounds_toArray, List.set_cons_zero, List.set_cons_succ, i64_w, i32_w]
                      rfl
                    refine pure_ (i := 9) (N := some 39) (v := ?_) (a' := ?_) #[true, true, true, true, true, false, false, true, true, true, false, false, false, false, false, false, false, false] rfl rfl (any_of HT_.out (by kernel_rfl)) (fun _ _ _ h => h) (Or.inl ⟨by rfl, ?_⟩) ?_ ?_
                    rotate_left
                    · intro w'
                      go_simp
                      with_reducible rfl
                    rotate_left
                    · simp only [Act.put, List.setIfInBounds_toArray, List.set_cons_zero, List.set_cons_succ, i64_w, i32_w]
                      rfl
                    refine pure_ (i := 10) (N := some 40) (v := ?_) (a' := ?_) #[true, true, true, true, true, false, false, true, true, true, true, false, false, false, false, false, false, false] rfl rfl (any_of HT_.out (by kernel_rfl)) (fun _ _ _ h => h) (Or.inl ⟨by rfl, ?_⟩) ?_ ?_
                    rotate_left
                    · intro w'
                      go_simp
                      with_reducible rfl
                    rotate_left
                    · simp only [Act.put, List.setIfInBounds_toArray, List.set_cons_zero, List.set_cons_succ, i64_w, i32_w]
                      rfl
                    refine take_ (i := 5) (N := some 35) (v := ?_) (a' := ?_) #[true, true, true, true, true, true, false, true, true, true, true, false, false, false, false, false, false, false] rfl rfl (take_ofW HT_.out HW_.out (by kernel_rfl)) (fun _ _ _ h => h) (Or.inl ⟨by rfl, ?_⟩) hHeld ?_ ?_
                    rotate_left
                    · rintro w' ⟨s0, s1⟩
                      go_simp
                      with_reducible rfl
                    rotate_left
                    · simp only [Act.put, List.setIfInBounds_toArray, List.set_cons_zero, List.set_cons_succ, i64_w, i32_w]
                      rfl
                    refine pure_ (i := 6) (N := some 36) (v := ?_) (a' := ?_) #[true, true, true, true, true, true, true, true, true, true, true, false, false, false, false, false, false, false] rfl rfl (any_of HT_.out (by kernel_rfl)) (fun _ _ _ h => h) (Or.inl ⟨by rfl, ?_⟩) ?_ ?_
                    rotate_left
                    · intro w'
                      go_simp
                      with_reducible rfl
                    rotate_left
                    · simp only [Act.put, List.setIfInBounds_toArray, List.set_cons_zero, List.set_cons_succ, i64_w, i32_w]
                      rfl
                    refine take_ (i := 11) (N := some 41) (v := ?_) (a' := ?_) #[true, true, true, true, true, true, true, true, true, true, true, true, false, false, false, false, false, false] rfl rfl (take_ofW HT_.out HW_.out (by kernel_rfl)) (fun _ _ _ h => h) (Or.inl ⟨by rfl, ?_⟩) hHeld ?_ ?_
                    rotate_left
                    · rintro w' ⟨s0, s1⟩
                      go_simp
                      with_reducible rfl
                    rotate_left
                    · simp only [Act.put, List.setIfInBounds_toArray, List.set_cons_zero, List.set_cons_succ, i64_w, i32_w]
                      rfl
                    refine pure_ (i := 12) (N := some 42) (v := ?_) (a' := ?_) #[true, true, true, true, true, true, true, true, true, true, true, true, true, false, false, false, false, false] rfl rfl (any_of HT_.out (by kernel_rfl)) (fun _ _ _ h => h) (Or.inl ⟨by rfl, ?_⟩) ?_ ?_
                    rotate_left
                    · intro w'
                      go_simp
                      with_reducible rfl
                    rotate_left
                    · simp only [Act.put, List.setIfInBounds_toArray, List.set_cons_zero, List.set_cons_succ, i64_w, i32_w]
                      rfl
                    refine pure_ (i := 13) (N := some 43) (v := ?_) (a' := ?_) #[true, true, true, true, true, true, true, true, true, true, true, true, true, true, false, false, false, false] rfl rfl (any_of HT_.out (by kernel_rfl)) (fun _ _ _ h => h) (Or.inl ⟨by rfl, ?_⟩) ?_ ?_
                    rotate_left
                    · intro w'
                      go_simp
                      with_reducible rfl
                    rotate_left
                    · simp only [Act.put, List.setIfInBounds_toArray, List.set_cons_zero, List.set_cons_succ, i64_w, i32_w]
                      rfl
                    refine pure_ (i := 14) (N := some 44) (v := ?_) (a' := ?_) #[true, true, true, true, true, true, true, true, true, true, true, true, true, true, true, false, false, false] rfl rfl (any_of HT_.out (by kernel_rfl)) (fun _ _ _ h => h) (Or.inl ⟨by rfl, ?_⟩) ?_ ?_
                    rotate_left
                    · intro w'
                      go_simp
                      with_reducible rfl
                    rotate_left
                    · simp only [Act.put, List.setIfInBounds_toArray, List.set_cons_zero, List.set_cons_succ, i64_w, i32_w]
                      rfl
                    refine one_ (i := 15) (N := some 45) #[true, true, true, true, true, true, true, true, true, true, true, true, true, true, true, true, false, false] rfl rfl (one_of HT_.out (by kernel_rfl)) (by decide) (fun K hK => ?_)
                    refine goes_ Try.func19 (by kernel_rfl) rfl #[.int .i64 (wrap64 ((wrap64 (rd l0 x27_1)) + (wrap64 ((Go.bits .and .i64 a2 65535) * (wrap64 (rd l1 x27_1))))))] (by rfl) rfl rfl (by (try simp only [List.map_toArray, List.map_cons, List.map_nil]); first | done | rfl | (simp only [tb_wrap8]; done) | (simp only [tb_wrap8]; rfl) | (simp only [List.length_drop, List.length_take]; rfl)) ?_
                    with_reducible refine (culletlaw15_brought.calls (wrap64 ((wrap64 (rd l0 x27_1)) + (wrap64 ((Go.bits .and .i64 a2 65535) * (wrap64 (rd l1 x27_1)))))) t135 _ A13.out).mono ?_
                    rintro e w' ⟨rfl, ⟨nd, rfl⟩⟩
                    refine ⟨_, rfl, ?_⟩
                    have p15 : 0 ≤ (x27_1 : Int) := of_decide_eq_true (by first | (with_reducible assumption) | assumption)
                    have q15 : (x27_1 : Int) < ((x7_1.length : Int) : Int) := of_decide_eq_true (by first | (with_reducible assumption) | assumption)
                    obtain ⟨go15, co15, eo15, gb15, gl15, cl15, HG15⟩ := Kd.R_form HO_7.out (by omega)
                    (first | cases eo15 | (injection eo15 with ea_ en_ ec_; (first | subst ea_ | (injection ea_ with ea_; subst ea_)); subst ec_; clear en_))
                    have GB15 := Aside0.mk gb15
                    have GG15 := Aside0.mk HG15
                    clear gb15 gl15 HG15
                    obtain ⟨hx15_0, hf15_0⟩ := Kd.R_celln 0 HO_7.out (x27_1 : Int) p15 q15
                    replace p15 := eq_true p15
                    replace q15 := eq_true q15
                    have HP18 := Kd.R_putn HO_7.out (x27_1 : Int) t135
                    rw [← Ny136.out] at HP18
                    have HQ18 := Aside0.mk HP18
                    clear HP18
                    refine hK.out _ _ ⟨((HB.out.cell (World.block_lt_of_cell? w _ hw133_0)).trans hw133_0), ((HB.out.cell (World.block_lt_of_cell? w _ hw134_0)).trans hw134_0)⟩ (fun hHeld => ?_)
                    clear hK K
                    refine norm_ (a' := ?_) ?_ ?_
                    rotate_left
                    · show Act.put _ (some 45) _ = _
                      simp only [Act.put, List.setIfInBounds_toArray, List.set_cons_zero, List.set_cons_succ, i64_w, i32_w]
                      rfl
                    refine pure_ (i := 16) (N := some 46) (v := ?_) (a' := ?_) #[true, true, true, true, true, true, true, true, true, true, true, true, true, true, true, true, true, false] rfl rfl (any_of HT_.out (by kernel_rfl)) (fun _ _ _ h => h) (Or.inl ⟨by rfl, ?_⟩) ?_ ?_
                    rotate_left
                    · intro w'
                      go_simp
                      with_reducible rfl
                    rotate_left
                    · simp only [Act.put, List.setIfInBounds_toArray, List.set_cons_zero, List.set_cons_succ, i64_w, i32_w]
                      rfl
                    refine last_ (i := 17) (N := none) #[true, true, true, true, true, true, true, true, true, true, true, true, true, true, true, true, true, true] rfl rfl (one_of HT_.out (by kernel_rfl)) (by decide) (fun K hK => ?_)
                    refine skip_ (w1 := ?_) (by rfl) rfl ?_ ?_
                    rotate_left
                    · go_simp
                      rfl
                    refine hK.out _ _ ?_
                    clear hK K
                    refine done_ (done_of HT_.out (by kernel_rfl)) ?_
                    have p16 : 0 ≤ (x27_1 : Int) := of_decide_eq_true (by first | (with_reducible assumption) | assumption)
                    have q16 : (x27_1 : Int) < ((x7_1.length : Int) : Int) := of_decide_eq_true (by first | (with_reducible assumption) | assumption)
                    replace p16 := eq_true p16
                    replace q16 := eq_true q16
                    try go_wp2
                    (try simp only [← hl7_1])
                    go_roundg k1
                    case measure => have := HK1.out; omega
                    case rel => exact ⟨(y136), (Int.tmod (wrap64 (x8_1 + (wrap64 (t135)))) 65535), (wrap64 (x27_1 + 1)), (by first | rfl | (simp; done) | (simp [*]; done)), (by first | rfl | (simp; done) | (simp [*]; done)), H', ⟨by have := HK1.out; omega⟩, ⟨by (try simp only [hl7_1]); (with_reducible repeat (first | apply Kd.R_alloc | apply Kd.R_drewN | apply Kd.R_drew)); exact HQ18.out⟩, ⟨by repeat (first | (with_reducible first | exact HB.out | apply below_alloc | apply pw_below_drewN | apply below_drew1 | refine below_set ?_ GB15.out) | exact HB.out)⟩⟩
                  · rw [if_neg c14] at H
                    exact absurd H (by simp)
                · rw [if_neg c12] at H
                  exact absurd H (by simp)
              · rw [if_neg c11] at H
                exact absurd H (by simp)
            · rw [if_neg c10] at H
              exact absurd H (by simp)
          · rw [if_neg c9] at H
            have c9b0 : decide (x27_1 < (y130.length : Int)) = false := decide_eq_false c9
            (try simp only [hl7_1] at c9b0)
            clear c9
            replace H := Option.bind_eq_some_iff.mp H
            obtain ⟨t138, A190, H⟩ := H
            replace H : ((walsh_Transform.f t138).bind fun bt141 => ((culletlaw15_copied.f k1 l1).bind fun t145 => ((walsh_Transform.f t145).bind fun bt148 => ((walsh_Transform.f x7_1).bind fun bt152 => (if 0 ≤ (l0.length : Int) then (if ((l0.length : Int) : Int).toNat ≤ 140737488355328 then ((some (List.replicate ((l0.length : Int) : Int).toNat 0 : List Int)).bind fun y156 => (if (l0.length : Int) = 0 then (none) else (if 0 ≤ (Int.tmod (Go.bits .and .i64 a2 65535) (l0.length : Int)) then (if (Int.tmod (Go.bits .and .i64 a2 65535) (l0.length : Int)) < (y156.length : Int) then ((walsh_Transform.f (y156.set ((Int.tmod (Go.bits .and .i64 a2 65535) (l0.length : Int)) : Int).toNat 1)).bind fun bt160 => (if bt141.2 = 0 then (if bt148.2 = 0 then (if bt152.2 = 0 then (if bt160.2 = 0 then (if (bt141.1.length : Int) = (l0.length : Int) then (if (bt148.1.length : Int) = (l0.length : Int) then (if (bt152.1.length : Int) = (l0.length : Int) then (culletlaw15_summed.j1 k1 (Go.bits .and .i64 a2 65535) x8_1 bt141.1 bt148.1 bt152.1 bt160.1 ((bt160.1.length : Int) != (l0.length : Int))) else (culletlaw15_summed.j1 k1 (Go.bits .and .i64 a2 65535) x8_1 bt141.1 bt148.1 bt152.1 bt160.1 true)) else (culletlaw15_summed.j1 k1 (Go.bits .and .i64 a2 65535) x8_1 bt141.1 bt148.1 bt152.1 bt160.1 true)) else (culletlaw15_summed.j1 k1 (Go.bits .and .i64 a2 65535) x8_1 bt141.1 bt148.1 bt152.1 bt160.1 true)) else (culletlaw15_summed.j1 k1 (Go.bits .and .i64 a2 65535) x8_1 bt141.1 bt148.1 bt152.1 bt160.1 true)) else (culletlaw15_summed.j1 k1 (Go.bits .and .i64 a2 65535) x8_1 bt141.1 bt148.1 bt152.1 bt160.1 true)) else (culletlaw15_summed.j1 k1 (Go.bits .and .i64 a2 65535) x8_1 bt141.1 bt148.1 bt152.1 bt160.1 true)) else (culletlaw15_summed.j1 k1 (Go.bits .and .i64 a2 65535) x8_1 bt141.1 bt148.1 bt152.1 bt160.1 true))) else (none)) else (none)))) else (none)) else (none)))))) = some r := H
            have A19 := Aside0.mk A190
            clear A190
            replace H := Option.bind_eq_some_iff.mp H
            obtain ⟨⟨t141, t142⟩, A200, H⟩ := H
            replace H : ((culletlaw15_copied.f k1 l1).bind fun t145 => ((walsh_Transform.f t145).bind fun bt148 => ((walsh_Transform.f x7_1).bind fun bt152 => (if 0 ≤ (l0.length : Int) then (if ((l0.length : Int) : Int).toNat ≤ 140737488355328 then ((some (List.replicate ((l0.length : Int) : Int).toNat 0 : List Int)).bind fun y156 => (if (l0.length : Int) = 0 then (none) else (if 0 ≤ (Int.tmod (Go.bits .and .i64 a2 65535) (l0.length : Int)) then (if (Int.tmod (Go.bits .and .i64 a2 65535) (l0.length : Int)) < (y156.length : Int) then ((walsh_Transform.f (y156.set ((Int.tmod (Go.bits .and .i64 a2 65535) (l0.length : Int)) : Int).toNat 1)).bind fun bt160 => (if t142 = 0 then (if bt148.2 = 0 then (if bt152.2 = 0 then (if bt160.2 = 0 then (if (t141.length : Int) = (l0.length : Int) then (if (bt148.1.length : Int) = (l0.length : Int) then (if (bt152.1.length : Int) = (l0.length : Int) then (culletlaw15_summed.j1 k1 (Go.bits .and .i64 a2 65535) x8_1 t141 bt148.1 bt152.1 bt160.1 ((bt160.1.length : Int) != (l0.length : Int))) else (culletlaw15_summed.j1 k1 (Go.bits .and .i64 a2 65535) x8_1 t141 bt148.1 bt152.1 bt160.1 true)) else (culletlaw15_summed.j1 k1 (Go.bits .and .i64 a2 65535) x8_1 t141 bt148.1 bt152.1 bt160.1 true)) else (culletlaw15_summed.j1 k1 (Go.bits .and .i64 a2 65535) x8_1 t141 bt148.1 bt152.1 bt160.1 true)) else (culletlaw15_summed.j1 k1 (Go.bits .and .i64 a2 65535) x8_1 t141 bt148.1 bt152.1 bt160.1 true)) else (culletlaw15_summed.j1 k1 (Go.bits .and .i64 a2 65535) x8_1 t141 bt148.1 bt152.1 bt160.1 true)) else (culletlaw15_summed.j1 k1 (Go.bits .and .i64 a2 65535) x8_1 t141 bt148.1 bt152.1 bt160.1 true)) else (culletlaw15_summed.j1 k1 (Go.bits .and .i64 a2 65535) x8_1 t141 bt148.1 bt152.1 bt160.1 true))) else (none)) else (none)))) else (none)) else (none))))) = some r := H
            have A20 := Aside0.mk A200
            clear A200
            replace H := Option.bind_eq_some_iff.mp H
            obtain ⟨t145, A210, H⟩ := H
            replace H : ((walsh_Transform.f t145).bind fun bt148 => ((walsh_Transform.f x7_1).bind fun bt152 => (if 0 ≤ (l0.length : Int) then (if ((l0.length : Int) : Int).toNat ≤ 140737488355328 then ((some (List.replicate ((l0.length : Int) : Int).toNat 0 : List Int)).bind fun y156 => (if (l0.length : Int) = 0 then (none) else (if 0 ≤ (Int.tmod (Go.bits .and .i64 a2 65535) (l0.length : Int)) then (if (Int.tmod (Go.bits .and .i64 a2 65535) (l0.length : Int)) < (y156.length : Int) then ((walsh_Transform.f (y156.set ((Int.tmod (Go.bits .and .i64 a2 65535) (l0.length : Int)) : Int).toNat 1)).bind fun bt160 => (if t142 = 0 then (if bt148.2 = 0 then (if bt152.2 = 0 then (if bt160.2 = 0 then (if (t141.length : Int) = (l0.length : Int) then (if (bt148.1.length : Int) = (l0.length : Int) then (if (bt152.1.length : Int) = (l0.length : Int) then (culletlaw15_summed.j1 k1 (Go.bits .and .i64 a2 65535) x8_1 t141 bt148.1 bt152.1 bt160.1 ((bt160.1.length : Int) != (l0.length : Int))) else (culletlaw15_summed.j1 k1 (Go.bits .and .i64 a2 65535) x8_1 t141 bt148.1 bt152.1 bt160.1 true)) else (culletlaw15_summed.j1 k1 (Go.bits .and .i64 a2 65535) x8_1 t141 bt148.1 bt152.1 bt160.1 true)) else (culletlaw15_summed.j1 k1 (Go.bits .and .i64 a2 65535) x8_1 t141 bt148.1 bt152.1 bt160.1 true)) else (culletlaw15_summed.j1 k1 (Go.bits .and .i64 a2 65535) x8_1 t141 bt148.1 bt152.1 bt160.1 true)) else (culletlaw15_summed.j1 k1 (Go.bits .and .i64 a2 65535) x8_1 t141 bt148.1 bt152.1 bt160.1 true)) else (culletlaw15_summed.j1 k1 (Go.bits .and .i64 a2 65535) x8_1 t141 bt148.1 bt152.1 bt160.1 true)) else (culletlaw15_summed.j1 k1 (Go.bits .and .i64 a2 65535) x8_1 t141 bt148.1 bt152.1 bt160.1 true))) else (none)) else (none)))) else (none)) else (none)))) = some r := H
            have A21 := Aside0.mk A210
            clear A210
            replace H := Option.bind_eq_some_iff.mp H
            obtain ⟨⟨t148, t149⟩, A220, H⟩ := H
            replace H : ((walsh_Transform.f x7_1).bind fun bt152 => (if 0 ≤ (l0.length : Int) then (if ((l0.length : Int) : Int).toNat ≤ 140737488355328 then ((some (List.replicate ((l0.length : Int) : Int).toNat 0 : List Int)).bind fun y156 => (if (l0.length : Int) = 0 then (none) else (if 0 ≤ (Int.tmod (Go.bits .and .i64 a2 65535) (l0.length : Int)) then (if (Int.tmod (Go.bits .and .i64 a2 65535) (l0.length : Int)) < (y156.length : Int) then ((walsh_Transform.f (y156.set ((Int.tmod (Go.bits .and .i64 a2 65535) (l0.length : Int)) : Int).toNat 1)).bind fun bt160 => (if t142 = 0 then (if t149 = 0 then (if bt152.2 = 0 then (if bt160.2 = 0 then (if (t141.length : Int) = (l0.length : Int) then (if (t148.length : Int) = (l0.length : Int) then (if (bt152.1.length : Int) = (l0.length : Int) then (culletlaw15_summed.j1 k1 (Go.bits .and .i64 a2 65535) x8_1 t141 t148 bt152.1 bt160.1 ((bt160.1.length : Int) != (l0.length : Int))) else (culletlaw15_summed.j1 k1 (Go.bits .and .i64 a2 65535) x8_1 t141 t148 bt152.1 bt160.1 true)) else (culletlaw15_summed.j1 k1 (Go.bits .and .i64 a2 65535) x8_1 t141 t148 bt152.1 bt160.1 true)) else (culletlaw15_summed.j1 k1 (Go.bits .and .i64 a2 65535) x8_1 t141 t148 bt152.1 bt160.1 true)) else (culletlaw15_summed.j1 k1 (Go.bits .and .i64 a2 65535) x8_1 t141 t148 bt152.1 bt160.1 true)) else (culletlaw15_summed.j1 k1 (Go.bits .and .i64 a2 65535) x8_1 t141 t148 bt152.1 bt160.1 true)) else (culletlaw15_summed.j1 k1 (Go.bits .and .i64 a2 65535) x8_1 t141 t148 bt152.1 bt160.1 true)) else (culletlaw15_summed.j1 k1 (Go.bits .and .i64 a2 65535) x8_1 t141 t148 bt152.1 bt160.1 true))) else (none)) else (none)))) else (none)) else (none))) = some r := H
            have A22 := Aside0.mk A220
            clear A220
            replace H := Option.bind_eq_some_iff.mp H
            obtain ⟨⟨t152, t153⟩, A230, H⟩ := H
            replace H : (if 0 ≤ (l0.length : Int) then (if ((l0.length : Int) : Int).toNat ≤ 140737488355328 then ((some (List.replicate ((l0.length : Int) : Int).toNat 0 : List Int)).bind fun y156 => (if (l0.length : Int) = 0 then (none) else (if 0 ≤ (Int.tmod (Go.bits .and .i64 a2 65535) (l0.length : Int)) then (if (Int.tmod (Go.bits .and .i64 a2 65535) (l0.length : Int)) < (y156.length : Int) then ((walsh_Transform.f (y156.set ((Int.tmod (Go.bits .and .i64 a2 65535) (l0.length : Int)) : Int).toNat 1)).bind fun bt160 => (if t142 = 0 then (if t149 = 0 then (if t153 = 0 then (if bt160.2 = 0 then (if (t141.length : Int) = (l0.length : Int) then (if (t148.length : Int) = (l0.length : Int) then (if (t152.length : Int) = (l0.length : Int) then (culletlaw15_summed.j1 k1 (Go.bits .and .i64 a2 65535) x8_1 t141 t148 t152 bt160.1 ((bt160.1.length : Int) != (l0.length : Int))) else (culletlaw15_summed.j1 k1 (Go.bits .and .i64 a2 65535) x8_1 t141 t148 t152 bt160.1 true)) else (culletlaw15_summed.j1 k1 (Go.bits .and .i64 a2 65535) x8_1 t141 t148 t152 bt160.1 true)) else (culletlaw15_summed.j1 k1 (Go.bits .and .i64 a2 65535) x8_1 t141 t148 t152 bt160.1 true)) else (culletlaw15_summed.j1 k1 (Go.bits .and .i64 a2 65535) x8_1 t141 t148 t152 bt160.1 true)) else (culletlaw15_summed.j1 k1 (Go.bits .and .i64 a2 65535) x8_1 t141 t148 t152 bt160.1 true)) else (culletlaw15_summed.j1 k1 (Go.bits .and .i64 a2 65535) x8_1 t141 t148 t152 bt160.1 true)) else (culletlaw15_summed.j1 k1 (Go.bits .and .i64 a2 65535) x8_1 t141 t148 t152 bt160.1 true))) else (none)) else (none)))) else (none)) else (none)) = some r := H
            have A23 := Aside0.mk A230
            clear A230
            by_cases c24 : 0 ≤ (l0.length : Int)
            · rw [if_pos c24] at H
              have c24b0 := eq_true c24
              have c24b1 : decide (0 ≤ (l0.length : Int)) = true := decide_eq_true c24
              clear c24
              by_cases c25 : ((l0.length : Int) : Int).toNat ≤ 140737488355328
              · rw [if_pos c25] at H
                have c25b0 := eq_true c25
                have c25b1 : decide (((l0.length : Int) : Int).toNat ≤ 140737488355328) = true := decide_eq_true c25
                clear c25
                obtain ⟨y156, hy156⟩ : ∃ y_ : List Int, y_ = (List.replicate ((l0.length : Int) : Int).toNat 0) := ⟨_, rfl⟩
                replace H : (if (l0.length : Int) = 0 then (none) else (if 0 ≤ (Int.tmod (Go.bits .and .i64 a2 65535) (l0.length : Int)) then (if (Int.tmod (Go.bits .and .i64 a2 65535) (l0.length : Int)) < (y156.length : Int) then ((walsh_Transform.f (y156.set ((Int.tmod (Go.bits .and .i64 a2 65535) (l0.length : Int)) : Int).toNat 1)).bind fun bt160 => (if t142 = 0 then (if t149 = 0 then (if t153 = 0 then (if bt160.2 = 0 then (if (t141.length : Int) = (l0.length : Int) then (if (t148.length : Int) = (l0.length : Int) then (if (t152.length : Int) = (l0.length : Int) then (culletlaw15_summed.j1 k1 (Go.bits .and .i64 a2 65535) x8_1 t141 t148 t152 bt160.1 ((bt160.1.length : Int) != (l0.length : Int))) else (culletlaw15_summed.j1 k1 (Go.bits .and .i64 a2 65535) x8_1 t141 t148 t152 bt160.1 true)) else (culletlaw15_summed.j1 k1 (Go.bits .and .i64 a2 65535) x8_1 t141 t148 t152 bt160.1 true)) else (culletlaw15_summed.j1 k1 (Go.bits .and .i64 a2 65535) x8_1 t141 t148 t152 bt160.1 true)) else (culletlaw15_summed.j1 k1 (Go.bits .and .i64 a2 65535) x8_1 t141 t148 t152 bt160.1 true)) else (culletlaw15_summed.j1 k1 (Go.bits .and .i64 a2 65535) x8_1 t141 t148 t152 bt160.1 true)) else (culletlaw15_summed.j1 k1 (Go.bits .and .i64 a2 65535) x8_1 t141 t148 t152 bt160.1 true)) else (culletlaw15_summed.j1 k1 (Go.bits .and .i64 a2 65535) x8_1 t141 t148 t152 bt160.1 true))) else (none)) else (none))) = some r := by first | (rw [hy156]; with_reducible exact H) | (have H2_ := (Option.bind_some _ _).symm.trans H; rw [hy156]; with_reducible exact H2_) | (have H2_ := (Option.bind_some _ _).symm.trans H; with_reducible exact H2_) | with_reducible exact H | (rw [hy156]; exact H) | exact H
                have Ny156 := Aside0.mk hy156
                clear hy156
                by_cases c26 : (l0.length : Int) = 0
                · rw [if_pos c26] at H
                  exact absurd H (by simp)
                · rw [if_neg c26] at H
                  have c26b0 : ((l0.length : Int) == 0) = false := beq_eq_false_iff_ne.mpr c26
                  (try simp only [hl7_1] at c26b0)
                  have c26b1 : ((l0.length : Int) != 0) = true := bne_iff_ne.mpr c26
                  (try simp only [hl7_1] at c26b1)
                  have c26b2 : ¬ (l0 = []) := fun h_ => c26 (by rw [h_]; rfl)
                  (try simp only [hl7_1] at c26b2)
                  obtain ⟨ji27, hji27⟩ : ∃ j_ : Int, (Int.tmod (Go.bits .and .i64 a2 65535) (l0.length : Int)) = j_ := ⟨_, rfl⟩
                  replace H : (if 0 ≤ (ji27) then (if (ji27) < (y156.length : Int) then ((walsh_Transform.f (y156.set ((ji27) : Int).toNat 1)).bind fun bt160 => (if t142 = 0 then (if t149 = 0 then (if t153 = 0 then (if bt160.2 = 0 then (if (t141.length : Int) = (l0.length : Int) then (if (t148.length : Int) = (l0.length : Int) then (if (t152.length : Int) = (l0.length : Int) then (culletlaw15_summed.j1 k1 (Go.bits .and .i64 a2 65535) x8_1 t141 t148 t152 bt160.1 ((bt160.1.length : Int) != (l0.length : Int))) else (culletlaw15_summed.j1 k1 (Go.bits .and .i64 a2 65535) x8_1 t141 t148 t152 bt160.1 true)) else (culletlaw15_summed.j1 k1 (Go.bits .and .i64 a2 65535) x8_1 t141 t148 t152 bt160.1 true)) else (culletlaw15_summed.j1 k1 (Go.bits .and .i64 a2 65535) x8_1 t141 t148 t152 bt160.1 true)) else (culletlaw15_summed.j1 k1 (Go.bits .and .i64 a2 65535) x8_1 t141 t148 t152 bt160.1 true)) else (culletlaw15_summed.j1 k1 (Go.bits .and .i64 a2 65535) x8_1 t141 t148 t152 bt160.1 true)) else (culletlaw15_summed.j1 k1 (Go.bits .and .i64 a2 65535) x8_1 t141 t148 t152 bt160.1 true)) else (culletlaw15_summed.j1 k1 (Go.bits .and .i64 a2 65535) x8_1 t141 t148 t152 bt160.1 true))) else (none)) else (none)) = some r := by first | (rw [hji27] at H; exact H) | (simp only [hji27] at H ⊢; exact H)
                  (try rw [hji27] at A19)
                  (try rw [hji27] at A20)
                  (try rw [hji27] at A21)
                  (try rw [hji27] at A22)
                  (try rw [hji27] at A23)
                  by_cases c28 : 0 ≤ (ji27)
                  · rw [if_pos c28] at H
                    have c28b0 : decide (0 ≤ (ji27)) = true := decide_eq_true c28
                    (try simp only [hl7_1] at c28b0)
                    clear c28
                    by_cases c29 : (ji27) < (y156.length : Int)
                    · rw [if_pos c29] at H
                      have c29b0 : decide ((ji27) < (y156.length : Int)) = true := decide_eq_true c29
                      (try simp only [hl7_1] at c29b0)
                      clear c29
                      obtain ⟨y159, hy159⟩ : ∃ y_ : List Int, y_ = (y156.set ((ji27) : Int).toNat 1) := ⟨_, rfl⟩
                      replace H : ((walsh_Transform.f y159).bind fun bt160 => (if t142 = 0 then (if t149 = 0 then (if t153 = 0 then (if bt160.2 = 0 then (if (t141.length : Int) = (l0.length : Int) then (if (t148.length : Int) = (l0.length : Int) then (if (t152.length : Int) = (l0.length : Int) then (culletlaw15_summed.j1 k1 (Go.bits .and .i64 a2 65535) x8_1 t141 t148 t152 bt160.1 ((bt160.1.length : Int) != (l0.length : Int))) else (culletlaw15_summed.j1 k1 (Go.bits .and .i64 a2 65535) x8_1 t141 t148 t152 bt160.1 true)) else (culletlaw15_summed.j1 k1 (Go.bits .and .i64 a2 65535) x8_1 t141 t148 t152 bt160.1 true)) else (culletlaw15_summed.j1 k1 (Go.bits .and .i64 a2 65535) x8_1 t141 t148 t152 bt160.1 true)) else (culletlaw15_summed.j1 k1 (Go.bits .and .i64 a2 65535) x8_1 t141 t148 t152 bt160.1 true)) else (culletlaw15_summed.j1 k1 (Go.bits .and .i64 a2 65535) x8_1 t141 t148 t152 bt160.1 true)) else (culletlaw15_summed.j1 k1 (Go.bits .and .i64 a2 65535) x8_1 t141 t148 t152 bt160.1 true)) else (culletlaw15_summed.j1 k1 (Go.bits .and .i64 a2 65535) x8_1 t141 t148 t152 bt160.1 true))) = some r := by first | (rw [hy159]; with_reducible exact H) | (have H2_ := (Option.bind_some _ _).symm.trans H; rw [hy159]; with_reducible exact H2_) | (have H2_ := (Option.bind_some _ _).symm.trans H; with_reducible exact H2_) | with_reducible exact H | (rw [hy159]; exact H) | exact H
                      have Ny159 := Aside0.mk hy159
                      clear hy159
                      replace H := Option.bind_eq_some_iff.mp H
                      obtain ⟨⟨t160, t161⟩, A310, H⟩ := H
                      replace H : (if t142 = 0 then (if t149 = 0 then (if t153 = 0 then (if t161 = 0 then (if (t141.length : Int) = (l0.length : Int) then (if (t148.length : Int) = (l0.length : Int) then (if (t152.length : Int) = (l0.length : Int) then (culletlaw15_summed.j1 k1 (Go.bits .and .i64 a2 65535) x8_1 t141 t148 t152 t160 ((t160.length : Int) != (l0.length : Int))) else (culletlaw15_summed.j1 k1 (Go.bits .and .i64 a2 65535) x8_1 t141 t148 t152 t160 true)) else (culletlaw15_summed.j1 k1 (Go.bits .and .i64 a2 65535) x8_1 t141 t148 t152 t160 true)) else (culletlaw15_summed.j1 k1 (Go.bits .and .i64 a2 65535) x8_1 t141 t148 t152 t160 true)) else (culletlaw15_summed.j1 k1 (Go.bits .and .i64 a2 65535) x8_1 t141 t148 t152 t160 true)) else (culletlaw15_summed.j1 k1 (Go.bits .and .i64 a2 65535) x8_1 t141 t148 t152 t160 true)) else (culletlaw15_summed.j1 k1 (Go.bits .and .i64 a2 65535) x8_1 t141 t148 t152 t160 true)) else (culletlaw15_summed.j1 k1 (Go.bits .and .i64 a2 65535) x8_1 t141 t148 t152 t160 true)) = some r := H
                      have A31 := Aside0.mk A310
                      clear A310
                      have HC32 := Aside0.mk H
                      clear H
                      go_upto_region 16 with (first | ((with_reducible refine gate_callee (f := 12) rfl ?_); refine goesL_ (some 58) rfl rfl Try.func12 (by kernel_rfl) rfl #[.slice A0 l0.length c0] rfl (by (try simp only [List.map_toArray, List.map_cons, List.map_nil]); first | done | rfl | (simp only [tb_wrap8]; done) | (simp only [tb_wrap8]; rfl) | (simp only [List.length_drop, List.length_take]; rfl)) ?_; (with_reducible refine (culletlaw15_copied.calls k1 _ _ l0 t138 _ ?side1 ?side2 A19.out).mono ?_); (case side1 => repeat (first | exact (Kd.C_below HR0.out HB.out) | (with_reducible refine Kd.C_alloc ?_ _) | (with_reducible refine Kd.C_drewN ?_ _) | (with_reducible refine Kd.C_drew ?_))); (case side2 => exact HC0.out); rintro e w33 ⟨v139, rfl, ho0, hb⟩; refine ⟨_, rfl, ?_⟩; have n0_ := Aside0.mk (Kd.R_elder' (by (with_reducible repeat (first | apply Kd.R_alloc | apply Kd.R_drewN | apply Kd.R_drew)); exact HO_7.out) (Kd.R_base ho0) hb); have n1_ := Aside0.mk (Kd.R_lower (Kd.R_new' ho0 (Kd.R_lt (by (with_reducible repeat (first | apply Kd.R_alloc | apply Kd.R_drewN | apply Kd.R_drew)); exact HO_7.out))) (below_size (by repeat (first | (with_reducible first | exact HB.out | apply below_alloc | apply pw_below_drewN | apply below_drew1) | exact HB.out)))); have n2_ := Aside0.mk (below_step (by repeat (first | (with_reducible first | exact HB.out | apply below_alloc | apply pw_below_drewN | apply below_drew1) | exact HB.out)) hb); clear HO_7; clear HB; have HO_7 := n0_; have HO140 := n1_; have HB := n2_; clear n0_ n1_ n2_; (try clear hb); (try clear hb2); (try clear hk); (try clear hi); (try clear ho0); obtain ⟨Ao34, co34, eo34⟩ := Kd.R_slice HO140.out; subst eo34) | ((with_reducible refine gate_callee (f := 13) rfl ?_); refine goesL_ (some 59) rfl rfl Try.func13 (by kernel_rfl) rfl #[.slice Ao34 t138.length co34] rfl (by (try simp only [List.map_toArray, List.map_cons, List.map_nil]); first | done | rfl | (simp only [tb_wrap8]; done) | (simp only [tb_wrap8]; rfl) | (simp only [List.length_drop, List.length_take]; rfl)) ?_; (with_reducible refine (walsh_Transform.calls _ _ t138 t141 t142 _ ?side1 ?side2 A20.out).mono ?_); (case side1 => repeat (first | exact (Kd.R_reads' HO140.out).2.2 | (with_reducible refine Kd.C_alloc ?_ _) | (with_reducible refine Kd.C_drewN ?_ _) | (with_reducible refine Kd.C_drew ?_))); (case side2 => exact (Kd.R_reads' HO140.out).2.1); rintro e w35 ⟨v143, rfl, ho0, hb⟩; refine ⟨_, rfl, ?_⟩; have n0_ := Aside0.mk (Kd.R_elder' (by (with_reducible repeat (first | apply Kd.R_alloc | apply Kd.R_drewN | apply Kd.R_drew)); exact HO_7.out) (Kd.R_base ho0) hb); have n1_ := Aside0.mk (Kd.R_elder' (by (with_reducible repeat (first | apply Kd.R_alloc | apply Kd.R_drewN | apply Kd.R_drew)); exact HO140.out) (Kd.R_base ho0) hb); have n2_ := Aside0.mk (Kd.R_lower (Kd.R_new' (Kd.R_new' ho0 (Kd.R_lt (by (with_reducible repeat (first | apply Kd.R_alloc | apply Kd.R_drewN | apply Kd.R_drew)); exact HO_7.out))) (Kd.R_lt (by (with_reducible repeat (first | apply Kd.R_alloc | apply Kd.R_drewN | apply Kd.R_drew)); exact HO140.out))) (below_size (by repeat (first | (with_reducible first | exact HB.out | apply below_alloc | apply pw_below_drewN | apply below_drew1) | exact HB.out)))); have n3_ := Aside0.mk (below_step (by repeat (first | (with_reducible first | exact HB.out | apply below_alloc | apply pw_below_drewN | apply below_drew1) | exact HB.out)) hb); clear HO_7; clear HO140; clear HB; have HO_7 := n0_; have HO140 := n1_; have HO144 := n2_; have HB := n3_; clear n0_ n1_ n2_ n3_; (try clear hb); (try clear hb2); (try clear hk); (try clear hi); (try clear ho0)) | ((with_reducible refine gate_callee (f := 12) rfl ?_); refine goesL_ (some 64) rfl rfl Try.func12 (by kernel_rfl) rfl #[.slice A1 l1.length c1] rfl (by (try simp only [List.map_toArray, List.map_cons, List.map_nil]); first | done | rfl | (simp only [tb_wrap8]; done) | (simp only [tb_wrap8]; rfl) | (simp only [List.length_drop, List.length_take]; rfl)) ?_; (with_reducible refine (culletlaw15_copied.calls k1 _ _ l1 t145 _ ?side1 ?side2 A21.out).mono ?_); (case side1 => repeat (first | exact (Kd.C_below HR1.out HB.out) | (with_reducible refine Kd.C_alloc ?_ _) | (with_reducible refine Kd.C_drewN ?_ _) | (with_reducible refine Kd.C_drew ?_))); (case side2 => exact HC1.out); rintro e w36 ⟨v146, rfl, ho0, hb⟩; refine ⟨_, rfl, ?_⟩; have n0_ := Aside0.mk (Kd.R_elder' (by (with_reducible repeat (first | apply Kd.R_alloc | apply Kd.R_drewN | apply Kd.R_drew)); exact HO_7.out) (Kd.R_base ho0) hb); have n1_ := Aside0.mk (Kd.R_elder' (by (with_reducible repeat (first | apply Kd.R_alloc | apply Kd.R_drewN | apply Kd.R_drew)); exact HO140.out) (Kd.R_base ho0) hb); have n2_ := Aside0.mk (Kd.R_elder' (by (with_reducible repeat (first | apply Kd.R_alloc | apply Kd.R_drewN | apply Kd.R_drew)); exact HO144.out) (Kd.R_base ho0) hb); have n3_ := Aside0.mk (Kd.R_lower (Kd.R_new' (Kd.R_new' (Kd.R_new' ho0 (Kd.R_lt (by (with_reducible repeat (first | apply Kd.R_alloc | apply Kd.R_drewN | apply Kd.R_drew)); exact HO_7.out))) (Kd.R_lt (by (with_reducible repeat (first | apply Kd.R_alloc | apply Kd.R_drewN | apply Kd.R_drew)); exact HO140.out))) (Kd.R_lt (by (with_reducible repeat (first | apply Kd.R_alloc | apply Kd.R_drewN | apply Kd.R_drew)); exact HO144.out))) (below_size (by repeat (first | (with_reducible first | exact HB.out | apply below_alloc | apply pw_below_drewN | apply below_drew1) | exact HB.out)))); have n4_ := Aside0.mk (below_step (by repeat (first | (with_reducible first | exact HB.out | apply below_alloc | apply pw_below_drewN | apply below_drew1) | exact HB.out)) hb); clear HO_7; clear HO140; clear HO144; clear HB; have HO_7 := n0_; have HO140 := n1_; have HO144 := n2_; have HO147 := n3_; have HB := n4_; clear n0_ n1_ n2_ n3_ n4_; (try clear hb); (try clear hb2); (try clear hk); (try clear hi); (try clear ho0); obtain ⟨Ao37, co37, eo37⟩ := Kd.R_slice HO147.out; subst eo37) | ((with_reducible refine gate_callee (f := 13) rfl ?_); refine goesL_ (some 65) rfl rfl Try.func13 (by kernel_rfl) rfl #[.slice Ao37 t145.length co37] rfl (by (try simp only [List.map_toArray, List.map_cons, List.map_nil]); first | done | rfl | (simp only [tb_wrap8]; done) | (simp only [tb_wrap8]; rfl) | (simp only [List.length_drop, List.length_take]; rfl)) ?_; (with_reducible refine (walsh_Transform.calls _ _ t145 t148 t149 _ ?side1 ?side2 A22.out).mono ?_); (case side1 => repeat (first | exact (Kd.R_reads' HO147.out).2.2 | (with_reducible refine Kd.C_alloc ?_ _) | (with_reducible refine Kd.C_drewN ?_ _) | (with_reducible refine Kd.C_drew ?_))); (case side2 => exact (Kd.R_reads' HO147.out).2.1); rintro e w38 ⟨v150, rfl, ho0, hb⟩; refine ⟨_, rfl, ?_⟩; have n0_ := Aside0.mk (Kd.R_elder' (by (with_reducible repeat (first | apply Kd.R_alloc | apply Kd.R_drewN | apply Kd.R_drew)); exact HO_7.out) (Kd.R_base ho0) hb); have n1_ := Aside0.mk (Kd.R_elder' (by (with_reducible repeat (first | apply Kd.R_alloc | apply Kd.R_drewN | apply Kd.R_drew)); exact HO140.out) (Kd.R_base ho0) hb); have n2_ := Aside0.mk (Kd.R_elder' (by (with_reducible repeat (first | apply Kd.R_alloc | apply Kd.R_drewN | apply Kd.R_drew)); exact HO144.out) (Kd.R_base ho0) hb); have n3_ := Aside0.mk (Kd.R_elder' (by (with_reducible repeat (first | apply Kd.R_alloc | apply Kd.R_drewN | apply Kd.R_drew)); exact HO147.out) (Kd.R_base ho0) hb); have n4_ := Aside0.mk (Kd.R_lower (Kd.R_new' (Kd.R_new' (Kd.R_new' (Kd.R_new' ho0 (Kd.R_lt (by (with_reducible repeat (first | apply Kd.R_alloc | apply Kd.R_drewN | apply Kd.R_drew)); exact HO_7.out))) (Kd.R_lt (by (with_reducible repeat (first | apply Kd.R_alloc | apply Kd.R_drewN | apply Kd.R_drew)); exact HO140.out))) (Kd.R_lt (by (with_reducible repeat (first | apply Kd.R_alloc | apply Kd.R_drewN | apply Kd.R_drew)); exact HO144.out))) (Kd.R_lt (by (with_reducible repeat (first | apply Kd.R_alloc | apply Kd.R_drewN | apply Kd.R_drew)); exact HO147.out))) (below_size (by repeat (first | (with_reducible first | exact HB.out | apply below_alloc | apply pw_below_drewN | apply below_drew1) | exact HB.out)))); have n5_ := Aside0.mk (below_step (by repeat (first | (with_reducible first | exact HB.out | apply below_alloc | apply pw_below_drewN | apply below_drew1) | exact HB.out)) hb); clear HO_7; clear HO140; clear HO144; clear HO147; clear HB; have HO_7 := n0_; have HO140 := n1_; have HO144 := n2_; have HO147 := n3_; have HO151 := n4_; have HB := n5_; clear n0_ n1_ n2_ n3_ n4_ n5_; (try clear hb); (try clear hb2); (try clear hk); (try clear hi); (try clear ho0)) | ((with_reducible refine gate_callee (f := 13) rfl ?_); refine goesL_ (some 70) rfl rfl Try.func13 (by kernel_rfl) rfl #[.slice Ao8 x7_1.length co8] rfl (by (try simp only [List.map_toArray, List.map_cons, List.map_nil]); first | done | rfl | (simp only [tb_wrap8]; done) | (simp only [tb_wrap8]; rfl) | (simp only [List.length_drop, List.length_take]; rfl)) ?_; (with_reducible refine (walsh_Transform.calls _ _ x7_1 t152 t153 _ ?side1 ?side2 A23.out).mono ?_); (case side1 => repeat (first | exact (Kd.R_reads' HO_7.out).2.2 | (with_reducible refine Kd.C_alloc ?_ _) | (with_reducible refine Kd.C_drewN ?_ _) | (with_reducible refine Kd.C_drew ?_))); (case side2 => exact (Kd.R_reads' HO_7.out).2.1); rintro e w39 ⟨v154, rfl, ho0, hb⟩; refine ⟨_, rfl, ?_⟩; have n0_ := Aside0.mk (Kd.R_elder' (by (with_reducible repeat (first | apply Kd.R_alloc | apply Kd.R_drewN | apply Kd.R_drew)); exact HO_7.out) (Kd.R_base ho0) hb); have n1_ := Aside0.mk (Kd.R_elder' (by (with_reducible repeat (first | apply Kd.R_alloc | apply Kd.R_drewN | apply Kd.R_drew)); exact HO140.out) (Kd.R_base ho0) hb); have n2_ := Aside0.mk (Kd.R_elder' (by (with_reducible repeat (first | apply Kd.R_alloc | apply Kd.R_drewN | apply Kd.R_drew)); exact HO144.out) (Kd.R_base ho0) hb); have n3_ := Aside0.mk (Kd.R_elder' (by (with_reducible repeat (first | apply Kd.R_alloc | apply Kd.R_drewN | apply Kd.R_drew)); exact HO147.out) (Kd.R_base ho0) hb); have n4_ := Aside0.mk (Kd.R_elder' (by (with_reducible repeat (first | apply Kd.R_alloc | apply Kd.R_drewN | apply Kd.R_drew)); exact HO151.out) (Kd.R_base ho0) hb); have n5_ := Aside0.mk (Kd.R_lower (Kd.R_new' (Kd.R_new' (Kd.R_new' (Kd.R_new' (Kd.R_new' ho0 (Kd.R_lt (by (with_reducible repeat (first | apply Kd.R_alloc | apply Kd.R_drewN | apply Kd.R_drew)); exact HO_7.out))) (Kd.R_lt (by (with_reducible repeat (first | apply Kd.R_alloc | apply Kd.R_drewN | apply Kd.R_drew)); exact HO140.out))) (Kd.R_lt (by (with_reducible repeat (first | apply Kd.R_alloc | apply Kd.R_drewN | apply Kd.R_drew)); exact HO144.out))) (Kd.R_lt (by (with_reducible repeat (first | apply Kd.R_alloc | apply Kd.R_drewN | apply Kd.R_drew)); exact HO147.out))) (Kd.R_lt (by (with_reducible repeat (first | apply Kd.R_alloc | apply Kd.R_drewN | apply Kd.R_drew)); exact HO151.out))) (below_size (by repeat (first | (with_reducible first | exact HB.out | apply below_alloc | apply pw_below_drewN | apply below_drew1) | exact HB.out)))); have n6_ := Aside0.mk (below_step (by repeat (first | (with_reducible first | exact HB.out | apply below_alloc | apply pw_below_drewN | apply below_drew1) | exact HB.out)) hb); clear HO_7; clear HO140; clear HO144; clear HO147; clear HO151; clear HB; have HO_7 := n0_; have HO140 := n1_; have HO144 := n2_; have HO147 := n3_; have HO151 := n4_; have HO155 := n5_; have HB := n6_; clear n0_ n1_ n2_ n3_ n4_ n5_ n6_; (try clear hb); (try clear hb2); (try clear hk); (try clear hi); (try clear ho0)) | ((with_reducible refine gate_dst (N := 75) rfl ?_); (try (refine gate_guard (by rfl) ?_; dsimp only)); refine Kd.R_make (Kd.int .u16) _ 33 rfl (N := 75) rfl 22 _ _ rfl (l0.length : Int) rfl rfl Try.underlying22 (.int .u16 0) 2 info33 rfl (by decide) (by omega) 0 (ok := fun _ => True) (okp := fun _ => True) rfl (fun _ hk => hk) trivial (of_decide_eq_true (by first | (with_reducible assumption) | assumption)) (Nat.le_trans (Nat.mul_le_mul_right _ (of_decide_eq_true (by first | (with_reducible assumption) | assumption) : (l0.length : Int).toNat ≤ 140737488355328)) (by omega)) (Below.refl _ _) (Nat.le_refl _) ?_; intro v157 w40 ho41 hb hg_ hnew_; clear hg_ hnew_; (first | rw [← Ny156.out] at ho41 | (simp only [Int.reduceToNat] at ho41; rw [← Ny156.out] at ho41)); have n0_ := Aside0.mk (Kd.R_elder' (by (with_reducible repeat (first | apply Kd.R_alloc | apply Kd.R_drewN | apply Kd.R_drew)); exact HO_7.out) (Kd.R_base ho41) hb); have n1_ := Aside0.mk (Kd.R_elder' (by (with_reducible repeat (first | apply Kd.R_alloc | apply Kd.R_drewN | apply Kd.R_drew)); exact HO140.out) (Kd.R_base ho41) hb); have n2_ := Aside0.mk (Kd.R_elder' (by (with_reducible repeat (first | apply Kd.R_alloc | apply Kd.R_drewN | apply Kd.R_drew)); exact HO144.out) (Kd.R_base ho41) hb); have n3_ := Aside0.mk (Kd.R_elder' (by (with_reducible repeat (first | apply Kd.R_alloc | apply Kd.R_drewN | apply Kd.R_drew)); exact HO147.out) (Kd.R_base ho41) hb); have n4_ := Aside0.mk (Kd.R_elder' (by (with_reducible repeat (first | apply Kd.R_alloc | apply Kd.R_drewN | apply Kd.R_drew)); exact HO151.out) (Kd.R_base ho41) hb); have n5_ := Aside0.mk (Kd.R_elder' (by (with_reducible repeat (first | apply Kd.R_alloc | apply Kd.R_drewN | apply Kd.R_drew)); exact HO155.out) (Kd.R_base ho41) hb); have n6_ := Aside0.mk (Kd.R_lower (Kd.R_new' (Kd.R_new' (Kd.R_new' (Kd.R_new' (Kd.R_new' (Kd.R_new' ho41 (Kd.R_lt (by (with_reducible repeat (first | apply Kd.R_alloc | apply Kd.R_drewN | apply Kd.R_drew)); exact HO_7.out))) (Kd.R_lt (by (with_reducible repeat (first | apply Kd.R_alloc | apply Kd.R_drewN | apply Kd.R_drew)); exact HO140.out))) (Kd.R_lt (by (with_reducible repeat (first | apply Kd.R_alloc | apply Kd.R_drewN | apply Kd.R_drew)); exact HO144.out))) (Kd.R_lt (by (with_reducible repeat (first | apply Kd.R_alloc | apply Kd.R_drewN | apply Kd.R_drew)); exact HO147.out))) (Kd.R_lt (by (with_reducible repeat (first | apply Kd.R_alloc | apply Kd.R_drewN | apply Kd.R_drew)); exact HO151.out))) (Kd.R_lt (by (with_reducible repeat (first | apply Kd.R_alloc | apply Kd.R_drewN | apply Kd.R_drew)); exact HO155.out))) (below_size (by repeat (first | (with_reducible first | exact HB.out | apply below_alloc | apply pw_below_drewN | apply below_drew1) | exact HB.out)))); have n7_ := Aside0.mk (below_step (by repeat (first | (with_reducible first | exact HB.out | apply below_alloc | apply pw_below_drewN | apply below_drew1) | exact HB.out)) hb); clear HO_7; clear HO140; clear HO144; clear HO147; clear HO151; clear HO155; clear HB; have HO_7 := n0_; have HO140 := n1_; have HO144 := n2_; have HO147 := n3_; have HO151 := n4_; have HO155 := n5_; have HO158 := n6_; have HB := n7_; clear n0_ n1_ n2_ n3_ n4_ n5_ n6_ n7_; clear hb ho41; have p30 : 0 ≤ ((ji27) : Int) := of_decide_eq_true (by first | (with_reducible assumption) | assumption); have q30 : ((ji27) : Int) < ((y156.length : Int) : Int) := of_decide_eq_true (by first | (with_reducible assumption) | assumption); obtain ⟨go30, co30, eo30, gb30, gl30, cl30, HG30⟩ := Kd.R_form HO158.out (by omega); (first | cases eo30 | (injection eo30 with ea_ en_ ec_; (first | subst ea_ | (injection ea_ with ea_; subst ea_)); subst ec_; clear en_)); have GB30 := Aside0.mk gb30; have GG30 := Aside0.mk HG30; clear gb30 gl30 HG30; obtain ⟨hx30_0, hf30_0⟩ := Kd.R_celln 0 HO158.out ((ji27) : Int) p30 q30; replace p30 := eq_true p30; replace q30 := eq_true q30; have n_ := Aside0.mk (Kd.R_mono (ok' := (fun k_ => some k_ ≠ (.slice Ao8 x7_1.length co8 : Value).ownBlock ∧ some k_ ≠ (.slice Ao34 t138.length co34 : Value).ownBlock ∧ some k_ ≠ (v143 : Value).ownBlock ∧ some k_ ≠ (.slice Ao37 t145.length co37 : Value).ownBlock ∧ some k_ ≠ (v150 : Value).ownBlock ∧ some k_ ≠ (v154 : Value).ownBlock)) HO158.out (fun k_ hk => ⟨hk.1.1.1.1.1.2, ⟨hk.1.1.1.1.2, ⟨hk.1.1.1.2, ⟨hk.1.1.2, ⟨hk.1.2, hk.2⟩⟩⟩⟩⟩)); clear HO158; have HO158 := n_; clear n_; obtain ⟨hy42_, hz42_⟩ := Kd.R_celln 0 HO158.out ((ji27) : Int) (of_decide_eq_true (by first | (with_reducible assumption) | assumption)) (of_decide_eq_true (by first | (with_reducible assumption) | assumption)); have HP42 := Kd.R_putg HO158.out ((ji27) : Int) 1) | ((with_reducible refine gate_store (t := 33) (p := 81) rfl ?_); refine store_event (t := 33) (p := 81) (v := ?vo_w43) (w1 := (w40.setCell ⟨go30, ((ji27) : Int).toNat, none⟩ (.int .u16 1))) ?hg ?ho ?hn ?hr ?_; (case ho => rfl); (case hg => rfl); (case hn => rfl); (case hr => first | (go_simp; done) | (go_simp; rfl)); intro w43 hw; have hg : w40.grownBy w43 (some go30) := (by rw [hw]; exact HP42.2); have hp_ : Kd.R (Kd.int .u16) 33 w43 w.heap.size (fun k_ => some k_ ≠ (.slice Ao8 x7_1.length co8 : Value).ownBlock ∧ some k_ ≠ (.slice Ao34 t138.length co34 : Value).ownBlock ∧ some k_ ≠ (v143 : Value).ownBlock ∧ some k_ ≠ (.slice Ao37 t145.length co37 : Value).ownBlock ∧ some k_ ≠ (v150 : Value).ownBlock ∧ some k_ ≠ (v154 : Value).ownBlock) (.slice (some ⟨go30, 0, none⟩) y156.length co30) y159 := (by rw [hw, Ny159.out]; exact HP42.1); clear HP42; have n0_ := Aside0.mk (Kd.R_after (v := (.slice (some ⟨go30, 0, none⟩) y156.length co30)) (v1 := (.slice (some ⟨go30, 0, none⟩) y156.length co30)) (ok := (fun k_ => some k_ ≠ (.slice Ao34 t138.length co34 : Value).ownBlock ∧ some k_ ≠ (v143 : Value).ownBlock ∧ some k_ ≠ (.slice Ao37 t145.length co37 : Value).ownBlock ∧ some k_ ≠ (v150 : Value).ownBlock ∧ some k_ ≠ (v154 : Value).ownBlock)) (by (with_reducible repeat (first | apply Kd.R_alloc | apply Kd.R_drewN | apply Kd.R_drew)); exact Kd.R_mono HO_7.out (fun _ hk => ⟨⟨hk.1.1.1.1.1.2, ⟨hk.1.1.1.1.2, ⟨hk.1.1.1.2, ⟨hk.1.1.2, hk.1.2⟩⟩⟩⟩, hk.2⟩)) hg (.inl rfl)); have n1_ := Aside0.mk (Kd.R_after (v := (.slice (some ⟨go30, 0, none⟩) y156.length co30)) (v1 := (.slice (some ⟨go30, 0, none⟩) y156.length co30)) (ok := (fun k_ => some k_ ≠ (.slice Ao8 x7_1.length co8 : Value).ownBlock ∧ some k_ ≠ (v143 : Value).ownBlock ∧ some k_ ≠ (.slice Ao37 t145.length co37 : Value).ownBlock ∧ some k_ ≠ (v150 : Value).ownBlock ∧ some k_ ≠ (v154 : Value).ownBlock)) (by (with_reducible repeat (first | apply Kd.R_alloc | apply Kd.R_drewN | apply Kd.R_drew)); exact Kd.R_mono HO140.out (fun _ hk => ⟨⟨hk.1.1.1.1.1.2, ⟨hk.1.1.1.1.2, ⟨hk.1.1.1.2, ⟨hk.1.1.2, hk.1.2⟩⟩⟩⟩, hk.2⟩)) hg (.inl rfl)); have n2_ := Aside0.mk (Kd.R_after (v := (.slice (some ⟨go30, 0, none⟩) y156.length co30)) (v1 := (.slice (some ⟨go30, 0, none⟩) y156.length co30)) (ok := (fun k_ => some k_ ≠ (.slice Ao8 x7_1.length co8 : Value).ownBlock ∧ some k_ ≠ (.slice Ao34 t138.length co34 : Value).ownBlock ∧ some k_ ≠ (.slice Ao37 t145.length co37 : Value).ownBlock ∧ some k_ ≠ (v150 : Value).ownBlock ∧ some k_ ≠ (v154 : Value).ownBlock)) (by (with_reducible repeat (first | apply Kd.R_alloc | apply Kd.R_drewN | apply Kd.R_drew)); exact Kd.R_mono HO144.out (fun _ hk => ⟨⟨hk.1.1.1.1.1.2, ⟨hk.1.1.1.1.2, ⟨hk.1.1.1.2, ⟨hk.1.1.2, hk.1.2⟩⟩⟩⟩, hk.2⟩)) hg (.inl rfl)); have n3_ := Aside0.mk (Kd.R_after (v := (.slice (some ⟨go30, 0, none⟩) y156.length co30)) (v1 := (.slice (some ⟨go30, 0, none⟩) y156.length co30)) (ok := (fun k_ => some k_ ≠ (.slice Ao8 x7_1.length co8 : Value).ownBlock ∧ some k_ ≠ (.slice Ao34 t138.length co34 : Value).ownBlock ∧ some k_ ≠ (v143 : Value).ownBlock ∧ some k_ ≠ (v150 : Value).ownBlock ∧ some k_ ≠ (v154 : Value).ownBlock)) (by (with_reducible repeat (first | apply Kd.R_alloc | apply Kd.R_drewN | apply Kd.R_drew)); exact Kd.R_mono HO147.out (fun _ hk => ⟨⟨hk.1.1.1.1.1.2, ⟨hk.1.1.1.1.2, ⟨hk.1.1.1.2, ⟨hk.1.1.2, hk.1.2⟩⟩⟩⟩, hk.2⟩)) hg (.inl rfl)); have n4_ := Aside0.mk (Kd.R_after (v := (.slice (some ⟨go30, 0, none⟩) y156.length co30)) (v1 := (.slice (some ⟨go30, 0, none⟩) y156.length co30)) (ok := (fun k_ => some k_ ≠ (.slice Ao8 x7_1.length co8 : Value).ownBlock ∧ some k_ ≠ (.slice Ao34 t138.length co34 : Value).ownBlock ∧ some k_ ≠ (v143 : Value).ownBlock ∧ some k_ ≠ (.slice Ao37 t145.length co37 : Value).ownBlock ∧ some k_ ≠ (v154 : Value).ownBlock)) (by (with_reducible repeat (first | apply Kd.R_alloc | apply Kd.R_drewN | apply Kd.R_drew)); exact Kd.R_mono HO151.out (fun _ hk => ⟨⟨hk.1.1.1.1.1.2, ⟨hk.1.1.1.1.2, ⟨hk.1.1.1.2, ⟨hk.1.1.2, hk.1.2⟩⟩⟩⟩, hk.2⟩)) hg (.inl rfl)); have n5_ := Aside0.mk (Kd.R_after (v := (.slice (some ⟨go30, 0, none⟩) y156.length co30)) (v1 := (.slice (some ⟨go30, 0, none⟩) y156.length co30)) (ok := (fun k_ => some k_ ≠ (.slice Ao8 x7_1.length co8 : Value).ownBlock ∧ some k_ ≠ (.slice Ao34 t138.length co34 : Value).ownBlock ∧ some k_ ≠ (v143 : Value).ownBlock ∧ some k_ ≠ (.slice Ao37 t145.length co37 : Value).ownBlock ∧ some k_ ≠ (v150 : Value).ownBlock)) (by (with_reducible repeat (first | apply Kd.R_alloc | apply Kd.R_drewN | apply Kd.R_drew)); exact Kd.R_mono HO155.out (fun _ hk => ⟨⟨hk.1.1.1.1.1.2, ⟨hk.1.1.1.1.2, ⟨hk.1.1.1.2, ⟨hk.1.1.2, hk.1.2⟩⟩⟩⟩, hk.2⟩)) hg (.inl rfl)); have n6_ := Aside0.mk (hp_); have n7_ := Aside0.mk ((by rw [hw]; exact below_set (HB.out) GB30.out : Below w.heap.size w w43)); clear HO_7; clear HO140; clear HO144; clear HO147; clear HO151; clear HO155; clear HO158; clear HB; have HO_7 := n0_; have HO140 := n1_; have HO144 := n2_; have HO147 := n3_; have HO151 := n4_; have HO155 := n5_; have HO158 := n6_; have HB := n7_; clear n0_ n1_ n2_ n3_ n4_ n5_ n6_ n7_; clear hg hw hp_) | ((with_reducible refine gate_callee (f := 13) rfl ?_); refine goesL_ (some 84) rfl rfl Try.func13 (by kernel_rfl) rfl #[.slice (some ⟨go30, 0, none⟩) y159.length co30] rfl (by (try simp only [List.map_toArray, List.map_cons, List.map_nil]); first | done | (rw [show y159.length = y156.length from (Kd.R_reads' HO158.out).1.symm] <;> rfl) | rfl | (simp only [tb_wrap8]; done) | (simp only [tb_wrap8]; rfl) | (simp only [List.length_drop, List.length_take]; rfl)) ?_; (with_reducible refine (walsh_Transform.calls _ _ y159 t160 t161 _ ?side1 ?side2 A31.out).mono ?_); (case side1 => repeat (first | exact (Kd.R_reads' HO158.out).2.2 | (with_reducible refine Kd.C_alloc ?_ _) | (with_reducible refine Kd.C_drewN ?_ _) | (with_reducible refine Kd.C_drew ?_))); (case side2 => rw [show y159.length = y156.length from (Kd.R_reads' HO158.out).1.symm]; exact (Kd.R_reads' HO158.out).2.1); rintro e w44 ⟨v162, rfl, ho0, hb⟩; refine ⟨_, rfl, ?_⟩; have n0_ := Aside0.mk (Kd.R_elder' (by (with_reducible repeat (first | apply Kd.R_alloc | apply Kd.R_drewN | apply Kd.R_drew)); exact HO_7.out) (Kd.R_base ho0) hb); have n1_ := Aside0.mk (Kd.R_elder' (by (with_reducible repeat (first | apply Kd.R_alloc | apply Kd.R_drewN | apply Kd.R_drew)); exact HO140.out) (Kd.R_base ho0) hb); have n2_ := Aside0.mk (Kd.R_elder' (by (with_reducible repeat (first | apply Kd.R_alloc | apply Kd.R_drewN | apply Kd.R_drew)); exact HO144.out) (Kd.R_base ho0) hb); have n3_ := Aside0.mk (Kd.R_elder' (by (with_reducible repeat (first | apply Kd.R_alloc | apply Kd.R_drewN | apply Kd.R_drew)); exact HO147.out) (Kd.R_base ho0) hb); have n4_ := Aside0.mk (Kd.R_elder' (by (with_reducible repeat (first | apply Kd.R_alloc | apply Kd.R_drewN | apply Kd.R_drew)); exact HO151.out) (Kd.R_base ho0) hb); have n5_ := Aside0.mk (Kd.R_elder' (by (with_reducible repeat (first | apply Kd.R_alloc | apply Kd.R_drewN | apply Kd.R_drew)); exact HO155.out) (Kd.R_base ho0) hb); have n6_ := Aside0.mk (Kd.R_elder' (by (with_reducible repeat (first | apply Kd.R_alloc | apply Kd.R_drewN | apply Kd.R_drew)); exact HO158.out) (Kd.R_base ho0) hb); have n7_ := Aside0.mk (Kd.R_lower (Kd.R_new' (Kd.R_new' (Kd.R_new' (Kd.R_new' (Kd.R_new' (Kd.R_new' (Kd.R_new' ho0 (Kd.R_lt (by (with_reducible repeat (first | apply Kd.R_alloc | apply Kd.R_drewN | apply Kd.R_drew)); exact HO_7.out))) (Kd.R_lt (by (with_reducible repeat (first | apply Kd.R_alloc | apply Kd.R_drewN | apply Kd.R_drew)); exact HO140.out))) (Kd.R_lt (by (with_reducible repeat (first | apply Kd.R_alloc | apply Kd.R_drewN | apply Kd.R_drew)); exact HO144.out))) (Kd.R_lt (by (with_reducible repeat (first | apply Kd.R_alloc | apply Kd.R_drewN | apply Kd.R_drew)); exact HO147.out))) (Kd.R_lt (by (with_reducible repeat (first | apply Kd.R_alloc | apply Kd.R_drewN | apply Kd.R_drew)); exact HO151.out))) (Kd.R_lt (by (with_reducible repeat (first | apply Kd.R_alloc | apply Kd.R_drewN | apply Kd.R_drew)); exact HO155.out))) (Kd.R_lt (by (with_reducible repeat (first | apply Kd.R_alloc | apply Kd.R_drewN | apply Kd.R_drew)); exact HO158.out))) (below_size (by repeat (first | (with_reducible first | exact HB.out | apply below_alloc | apply pw_below_drewN | apply below_drew1) | exact HB.out)))); have n8_ := Aside0.mk (below_step (by repeat (first | (with_reducible first | exact HB.out | apply below_alloc | apply pw_below_drewN | apply below_drew1) | exact HB.out)) hb); clear HO_7; clear HO140; clear HO144; clear HO147; clear HO151; clear HO155; clear HO158; clear HB; have HO_7 := n0_; have HO140 := n1_; have HO144 := n2_; have HO147 := n3_; have HO151 := n4_; have HO155 := n5_; have HO158 := n6_; have HO163 := n7_; have HB := n8_; clear n0_ n1_ n2_ n3_ n4_ n5_ n6_ n7_ n8_; (try clear hb); (try clear hb2); (try clear hk); (try clear hi); (try clear ho0)))
                      (try simp only [Act.put, List.setIfInBounds_toArray, List.set_cons_zero, List.set_cons_succ])
                      go_cut [128] (fun v128 wc => ∃ (kq : Nat) (x128_31 : Bool), v128 = .bool x128_31 ∧ Aside0 (culletlaw15_summed.j1 kq (Go.bits .and .i64 a2 65535) x8_1 t141 t148 t152 t160 x128_31 = some r) ∧ Aside0 (kq ≤ k1) ∧ Aside0 (Kd.R (Kd.int .u16) 33 wc w.heap.size (fun k_ => some k_ ≠ (v150 : Value).ownBlock ∧ some k_ ≠ (v154 : Value).ownBlock ∧ some k_ ≠ (v162 : Value).ownBlock) v143 t141) ∧ Aside0 (Kd.R (Kd.int .u16) 33 wc w.heap.size (fun k_ => some k_ ≠ (v143 : Value).ownBlock ∧ some k_ ≠ (v154 : Value).ownBlock ∧ some k_ ≠ (v162 : Value).ownBlock) v150 t148) ∧ Aside0 (Kd.R (Kd.int .u16) 33 wc w.heap.size (fun k_ => some k_ ≠ (v143 : Value).ownBlock ∧ some k_ ≠ (v150 : Value).ownBlock ∧ some k_ ≠ (v162 : Value).ownBlock) v154 t152) ∧ Aside0 (Kd.R (Kd.int .u16) 33 wc w.heap.size (fun k_ => some k_ ≠ (v143 : Value).ownBlock ∧ some k_ ≠ (v150 : Value).ownBlock ∧ some k_ ≠ (v154 : Value).ownBlock) v162 t160) ∧ Aside0 (Below w.heap.size w wc))
                      case first =>
                        have H := HC32.out
                        clear HC32
                        by_cases c45 : t142 = 0
                        · rw [if_pos c45] at H
                          have c45b0 : (t142 == 0) = true := beq_iff_eq.mpr c45
                          (try simp only [hl7_1] at c45b0)
                          have c45b1 : (t142 != 0) = false := bne_eq_false_iff_eq.mpr c45
                          (try simp only [hl7_1] at c45b1)
                          clear c45
                          (first | rw [c45b0] | (simp only [i64_w, i32_w]; rw [c45b0]) | skip)
                          by_cases c46 : t149 = 0
                          · rw [if_pos c46] at H
                            have c46b0 : (t149 == 0) = true := beq_iff_eq.mpr c46
                            (try simp only [hl7_1] at c46b0)
                            have c46b1 : (t149 != 0) = false := bne_eq_false_iff_eq.mpr c46
                            (try simp only [hl7_1] at c46b1)
                            clear c46
                            by_cases c47 : t153 = 0
                            · rw [if_pos c47] at H
                              have c47b0 : (t153 == 0) = true := beq_iff_eq.mpr c47
                              (try simp only [hl7_1] at c47b0)
                              have c47b1 : (t153 != 0) = false := bne_eq_false_iff_eq.mpr c47
                              (try simp only [hl7_1] at c47b1)
                              clear c47
                              by_cases c48 : t161 = 0
                              · rw [if_pos c48] at H
                                have c48b0 : (t161 == 0) = true := beq_iff_eq.mpr c48
                                (try simp only [hl7_1] at c48b0)
                                have c48b1 : (t161 != 0) = false := bne_eq_false_iff_eq.mpr c48
                                (try simp only [hl7_1] at c48b1)
                                clear c48
                                by_cases c49 : (t141.length : Int) = (l0.length : Int)
                                · rw [if_pos c49] at H
                                  have c49b0 : ((t141.length : Int) == (l0.length : Int)) = true := beq_iff_eq.mpr c49
                                  (try simp only [hl7_1] at c49b0)
                                  have c49b1 : ((t141.length : Int) != (l0.length : Int)) = false := bne_eq_false_iff_eq.mpr c49
                                  (try simp only [hl7_1] at c49b1)
                                  have c49b2 : (t141.length == l0.length) = true := by first | simpa using c49 | (simp at c49 ⊢; omega)
                                  (try simp only [hl7_1] at c49b2)
                                  clear c49
                                  by_cases c50 : (t148.length : Int) = (l0.length : Int)
                                  · rw [if_pos c50] at H
                                    have c50b0 : ((t148.length : Int) == (l0.length : Int)) = true := beq_iff_eq.mpr c50
                                    (try simp only [hl7_1] at c50b0)
                                    have c50b1 : ((t148.length : Int) != (l0.length : Int)) = false := bne_eq_false_iff_eq.mpr c50
                                    (try simp only [hl7_1] at c50b1)
                                    have c50b2 : (t148.length == l0.length) = true := by first | simpa using c50 | (simp at c50 ⊢; omega)
                                    (try simp only [hl7_1] at c50b2)
                                    clear c50
                                    by_cases c51 : (t152.length : Int) = (l0.length : Int)
                                    · rw [if_pos c51] at H
                                      have c51b0 : ((t152.length : Int) == (l0.length : Int)) = true := beq_iff_eq.mpr c51
                                      (try simp only [hl7_1] at c51b0)
                                      have c51b1 : ((t152.length : Int) != (l0.length : Int)) = false := bne_eq_false_iff_eq.mpr c51
                                      (try simp only [hl7_1] at c51b1)
                                      have c51b2 : (t152.length == l0.length) = true := by first | simpa using c51 | (simp at c51 ⊢; omega)
                                      (try simp only [hl7_1] at c51b2)
                                      clear c51
                                      have H' := Aside0.mk H
                                      clear H
                                      obtain ⟨Ao52, co52, eo52⟩ := Kd.R_slice HO144.out
                                      subst eo52
                                      obtain ⟨Ao53, co53, eo53⟩ := Kd.R_slice HO151.out
                                      subst eo53
                                      obtain ⟨Ao54, co54, eo54⟩ := Kd.R_slice HO155.out
                                      subst eo54
                                      obtain ⟨Ao55, co55, eo55⟩ := Kd.R_slice HO163.out
                                      subst eo55
                                      go_wp2
                                      go_meet
                                      case rel => exact ⟨_, (((t160.length : Int) != (l0.length : Int))), (by first | rfl | (simp; done) | (simp [*]; done)), H', ⟨by have := HK1.out; first | omega | exact Nat.le_refl _⟩, ⟨by (try simp only [hl7_1]); (with_reducible repeat (first | apply Kd.R_alloc | apply Kd.R_drewN | apply Kd.R_drew)); exact Kd.R_mono HO144.out (fun _ hk => ⟨hk.1.1.2.2.2.1, ⟨hk.1.1.2.2.2.2, hk.2⟩⟩)⟩, ⟨by (try simp only [hl7_1]); (with_reducible repeat (first | apply Kd.R_alloc | apply Kd.R_drewN | apply Kd.R_drew)); exact Kd.R_mono HO151.out (fun _ hk => ⟨hk.1.1.2.2.1, ⟨hk.1.1.2.2.2.2, hk.2⟩⟩)⟩, ⟨by (try simp only [hl7_1]); (with_reducible repeat (first | apply Kd.R_alloc | apply Kd.R_drewN | apply Kd.R_drew)); exact Kd.R_mono HO155.out (fun _ hk => ⟨hk.1.1.2.2.1, ⟨hk.1.1.2.2.2.2, hk.2⟩⟩)⟩, ⟨by (try simp only [hl7_1]); (with_reducible repeat (first | apply Kd.R_alloc | apply Kd.R_drewN | apply Kd.R_drew)); exact Kd.R_mono HO163.out (fun _ hk => ⟨hk.1.1.1.1.2, ⟨hk.1.1.2, hk.1.2⟩⟩)⟩, ⟨by repeat (first | (with_reducible first | exact HB.out | apply below_alloc | apply pw_below_drewN | apply below_drew1) | exact HB.out)⟩⟩
                                    · rw [if_neg c51] at H
                                      have c51b0 : ((t152.length : Int) == (l0.length : Int)) = false := beq_eq_false_iff_ne.mpr c51
                                      (try simp only [hl7_1] at c51b0)
                                      have c51b1 : ((t152.length : Int) != (l0.length : Int)) = true := bne_iff_ne.mpr c51
                                      (try simp only [hl7_1] at c51b1)
                                      have c51b2 : (t152.length == l0.length) = false := by first | simpa using c51 | (simp at c51 ⊢; omega)
                                      (try simp only [hl7_1] at c51b2)
                                      have H' := Aside0.mk H
                                      clear H
                                      obtain ⟨Ao56, co56, eo56⟩ := Kd.R_slice HO144.out
                                      subst eo56
                                      obtain ⟨Ao57, co57, eo57⟩ := Kd.R_slice HO151.out
                                      subst eo57
                                      obtain ⟨Ao58, co58, eo58⟩ := Kd.R_slice HO155.out
                                      subst eo58
                                      go_wp2
                                      go_meet
                                      case rel => exact ⟨_, (true), (by first | rfl | (simp; done) | (simp [*]; done)), H', ⟨by have := HK1.out; first | omega | exact Nat.le_refl _⟩, ⟨by (try simp only [hl7_1]); (with_reducible repeat (first | apply Kd.R_alloc | apply Kd.R_drewN | apply Kd.R_drew)); exact Kd.R_mono HO144.out (fun _ hk => ⟨hk.1.1.2.2.2.1, ⟨hk.1.1.2.2.2.2, hk.2⟩⟩)⟩, ⟨by (try simp only [hl7_1]); (with_reducible repeat (first | apply Kd.R_alloc | apply Kd.R_drewN | apply Kd.R_drew)); exact Kd.R_mono HO151.out (fun _ hk => ⟨hk.1.1.2.2.1, ⟨hk.1.1.2.2.2.2, hk.2⟩⟩)⟩, ⟨by (try simp only [hl7_1]); (with_reducible repeat (first | apply Kd.R_alloc | apply Kd.R_drewN | apply Kd.R_drew)); exact Kd.R_mono HO155.out (fun _ hk => ⟨hk.1.1.2.2.1, ⟨hk.1.1.2.2.2.2, hk.2⟩⟩)⟩, ⟨by (try simp only [hl7_1]); (with_reducible repeat (first | apply Kd.R_alloc | apply Kd.R_drewN | apply Kd.R_drew)); exact Kd.R_mono HO163.out (fun _ hk => ⟨hk.1.1.1.1.2, ⟨hk.1.1.2, hk.1.2⟩⟩)⟩, ⟨by repeat (first | (with_reducible first | exact HB.out | apply below_alloc | apply pw_below_drewN | apply below_drew1) | exact HB.out)⟩⟩
                                  · rw [if_neg c50] at H
                                    have c50b0 : ((t148.length : Int) == (l0.length : Int)) = false := beq_eq_false_iff_ne.mpr c50
                                    (try simp only [hl7_1] at c50b0)
                                    have c50b1 : ((t148.length : Int) != (l0.length : Int)) = true := bne_iff_ne.mpr c50
                                    (try simp only [hl7_1] at c50b1)
                                    have c50b2 : (t148.length == l0.length) = false := by first | simpa using c50 | (simp at c50 ⊢; omega)
                                    (try simp only [hl7_1] at c50b2)
                                    have H' := Aside0.mk H
                                    clear H
                                    obtain ⟨Ao59, co59, eo59⟩ := Kd.R_slice HO144.out
                                    subst eo59
                                    obtain ⟨Ao60, co60, eo60⟩ := Kd.R_slice HO151.out
                                    subst eo60
                                    go_wp2
                                    go_meet
                                    case rel => exact ⟨_, (true), (by first | rfl | (simp; done) | (simp [*]; done)), H', ⟨by have := HK1.out; first | omega | exact Nat.le_refl _⟩, ⟨by (try simp only [hl7_1]); (with_reducible repeat (first | apply Kd.R_alloc | apply Kd.R_drewN | apply Kd.R_drew)); exact Kd.R_mono HO144.out (fun _ hk => ⟨hk.1.1.2.2.2.1, ⟨hk.1.1.2.2.2.2, hk.2⟩⟩)⟩, ⟨by (try simp only [hl7_1]); (with_reducible repeat (first | apply Kd.R_alloc | apply Kd.R_drewN | apply Kd.R_drew)); exact Kd.R_mono HO151.out (fun _ hk => ⟨hk.1.1.2.2.1, ⟨hk.1.1.2.2.2.2, hk.2⟩⟩)⟩, ⟨by (try simp only [hl7_1]); (with_reducible repeat (first | apply Kd.R_alloc | apply Kd.R_drewN | apply Kd.R_drew)); exact Kd.R_mono HO155.out (fun _ hk => ⟨hk.1.1.2.2.1, ⟨hk.1.1.2.2.2.2, hk.2⟩⟩)⟩, ⟨by (try simp only [hl7_1]); (with_reducible repeat (first | apply Kd.R_alloc | apply Kd.R_drewN | apply Kd.R_drew)); exact Kd.R_mono HO163.out (fun _ hk => ⟨hk.1.1.1.1.2, ⟨hk.1.1.2, hk.1.2⟩⟩)⟩, ⟨by repeat (first | (with_reducible first | exact HB.out | apply below_alloc | apply pw_below_drewN | apply below_drew1) | exact HB.out)⟩⟩
                                · rw [if_neg c49] at H
                                  have c49b0 : ((t141.length : Int) == (l0.length : Int)) = false := beq_eq_false_iff_ne.mpr c49
                                  (try simp only [hl7_1] at c49b0)
                                  have c49b1 : ((t141.length : Int) != (l0.length : Int)) = true := bne_iff_ne.mpr c49
                                  (try simp only [hl7_1] at c49b1)
                                  have c49b2 : (t141.length == l0.length) = false := by first | simpa using c49 | (simp at c49 ⊢; omega)
                                  (try simp only [hl7_1] at c49b2)
                                  have H' := Aside0.mk H
                                  clear H
                                  obtain ⟨Ao61, co61, eo61⟩ := Kd.R_slice HO144.out
                                  subst eo61
                                  go_wp2
                                  go_meet
                                  case rel => exact ⟨_, (true), (by first | rfl | (simp; done) | (simp [*]; done)), H', ⟨by have := HK1.out; first | omega | exact Nat.le_refl _⟩, ⟨by (try simp only [hl7_1]); (with_reducible repeat (first | apply Kd.R_alloc | apply Kd.R_drewN | apply Kd.R_drew)); exact Kd.R_mono HO144.out (fun _ hk => ⟨hk.1.1.2.2.2.1, ⟨hk.1.1.2.2.2.2, hk.2⟩⟩)⟩, ⟨by (try simp only [hl7_1]); (with_reducible repeat (first | apply Kd.R_alloc | apply Kd.R_drewN | apply Kd.R_drew)); exact Kd.R_mono HO151.out (fun _ hk => ⟨hk.1.1.2.2.1, ⟨hk.1.1.2.2.2.2, hk.2⟩⟩)⟩, ⟨by (try simp only [hl7_1]); (with_reducible repeat (first | apply Kd.R_alloc | apply Kd.R_drewN | apply Kd.R_drew)); exact Kd.R_mono HO155.out (fun _ hk => ⟨hk.1.1.2.2.1, ⟨hk.1.1.2.2.2.2, hk.2⟩⟩)⟩, ⟨by (try simp only [hl7_1]); (with_reducible repeat (first | apply Kd.R_alloc | apply Kd.R_drewN | apply Kd.R_drew)); exact Kd.R_mono HO163.out (fun _ hk => ⟨hk.1.1.1.1.2, ⟨hk.1.1.2, hk.1.2⟩⟩)⟩, ⟨by repeat (first | (with_reducible first | exact HB.out | apply below_alloc | apply pw_below_drewN | apply below_drew1) | exact HB.out)⟩⟩
                              · rw [if_neg c48] at H
                                have c48b0 : (t161 == 0) = false := beq_eq_false_iff_ne.mpr c48
                                (try simp only [hl7_1] at c48b0)
                                have c48b1 : (t161 != 0) = true := bne_iff_ne.mpr c48
                                (try simp only [hl7_1] at c48b1)
                                have H' := Aside0.mk H
                                clear H
                                go_wp2
                                go_meet
                                case rel => exact ⟨_, (true), (by first | rfl | (simp; done) | (simp [*]; done)), H', ⟨by have := HK1.out; first | omega | exact Nat.le_refl _⟩, ⟨by (try simp only [hl7_1]); (with_reducible repeat (first | apply Kd.R_alloc | apply Kd.R_drewN | apply Kd.R_drew)); exact Kd.R_mono HO144.out (fun _ hk => ⟨hk.1.1.2.2.2.1, ⟨hk.1.1.2.2.2.2, hk.2⟩⟩)⟩, ⟨by (try simp only [hl7_1]); (with_reducible repeat (first | apply Kd.R_alloc | apply Kd.R_drewN | apply Kd.R_drew)); exact Kd.R_mono HO151.out (fun _ hk => ⟨hk.1.1.2.2.1, ⟨hk.1.1.2.2.2.2, hk.2⟩⟩)⟩, ⟨by (try simp only [hl7_1]); (with_reducible repeat (first | apply Kd.R_alloc | apply Kd.R_drewN | apply Kd.R_drew)); exact Kd.R_mono HO155.out (fun _ hk => ⟨hk.1.1.2.2.1, ⟨hk.1.1.2.2.2.2, hk.2⟩⟩)⟩, ⟨by (try simp only [hl7_1]); (with_reducible repeat (first | apply Kd.R_alloc | apply Kd.R_drewN | apply Kd.R_drew)); exact Kd.R_mono HO163.out (fun _ hk => ⟨hk.1.1.1.1.2, ⟨hk.1.1.2, hk.1.2⟩⟩)⟩, ⟨by repeat (first | (with_reducible first | exact HB.out | apply below_alloc | apply pw_below_drewN | apply below_drew1) | exact HB.out)⟩⟩
                            · rw [if_neg c47] at H
                              have c47b0 : (t153 == 0) = false := beq_eq_false_iff_ne.mpr c47
                              (try simp only [hl7_1] at c47b0)
                              have c47b1 : (t153 != 0) = true := bne_iff_ne.mpr c47
                              (try simp only [hl7_1] at c47b1)
                              have H' := Aside0.mk H
                              clear H
                              go_wp2
                              go_meet
                              case rel => exact ⟨_, (true), (by first | rfl | (simp; done) | (simp [*]; done)), H', ⟨by have := HK1.out; first | omega | exact Nat.le_refl _⟩, ⟨by (try simp only [hl7_1]); (with_reducible repeat (first | apply Kd.R_alloc | apply Kd.R_drewN | apply Kd.R_drew)); exact Kd.R_mono HO144.out (fun _ hk => ⟨hk.1.1.2.2.2.1, ⟨hk.1.1.2.2.2.2, hk.2⟩⟩)⟩, ⟨by (try simp only [hl7_1]); (with_reducible repeat (first | apply Kd.R_alloc | apply Kd.R_drewN | apply Kd.R_drew)); exact Kd.R_mono HO151.out (fun _ hk => ⟨hk.1.1.2.2.1, ⟨hk.1.1.2.2.2.2, hk.2⟩⟩)⟩, ⟨by (try simp only [hl7_1]); (with_reducible repeat (first | apply Kd.R_alloc | apply Kd.R_drewN | apply Kd.R_drew)); exact Kd.R_mono HO155.out (fun _ hk => ⟨hk.1.1.2.2.1, ⟨hk.1.1.2.2.2.2, hk.2⟩⟩)⟩, ⟨by (try simp only [hl7_1]); (with_reducible repeat (first | apply Kd.R_alloc | apply Kd.R_drewN | apply Kd.R_drew)); exact Kd.R_mono HO163.out (fun _ hk => ⟨hk.1.1.1.1.2, ⟨hk.1.1.2, hk.1.2⟩⟩)⟩, ⟨by repeat (first | (with_reducible first | exact HB.out | apply below_alloc | apply pw_below_drewN | apply below_drew1) | exact HB.out)⟩⟩
                          · rw [if_neg c46] at H
                            have c46b0 : (t149 == 0) = false := beq_eq_false_iff_ne.mpr c46
                            (try simp only [hl7_1] at c46b0)
                            have c46b1 : (t149 != 0) = true := bne_iff_ne.mpr c46
                            (try simp only [hl7_1] at c46b1)
                            have H' := Aside0.mk H
                            clear H
                            go_wp2
                            go_meet
                            case rel => exact ⟨_, (true), (by first | rfl | (simp; done) | (simp [*]; done)), H', ⟨by have := HK1.out; first | omega | exact Nat.le_refl _⟩, ⟨by (try simp only [hl7_1]); (with_reducible repeat (first | apply Kd.R_alloc | apply Kd.R_drewN | apply Kd.R_drew)); exact Kd.R_mono HO144.out (fun _ hk => ⟨hk.1.1.2.2.2.1, ⟨hk.1.1.2.2.2.2, hk.2⟩⟩)⟩, ⟨by (try simp only [hl7_1]); (with_reducible repeat (first | apply Kd.R_alloc | apply Kd.R_drewN | apply Kd.R_drew)); exact Kd.R_mono HO151.out (fun _ hk => ⟨hk.1.1.2.2.1, ⟨hk.1.1.2.2.2.2, hk.2⟩⟩)⟩, ⟨by (try simp only [hl7_1]); (with_reducible repeat (first | apply Kd.R_alloc | apply Kd.R_drewN | apply Kd.R_drew)); exact Kd.R_mono HO155.out (fun _ hk => ⟨hk.1.1.2.2.1, ⟨hk.1.1.2.2.2.2, hk.2⟩⟩)⟩, ⟨by (try simp only [hl7_1]); (with_reducible repeat (first | apply Kd.R_alloc | apply Kd.R_drewN | apply Kd.R_drew)); exact Kd.R_mono HO163.out (fun _ hk => ⟨hk.1.1.1.1.2, ⟨hk.1.1.2, hk.1.2⟩⟩)⟩, ⟨by repeat (first | (with_reducible first | exact HB.out | apply below_alloc | apply pw_below_drewN | apply below_drew1) | exact HB.out)⟩⟩
                        · rw [if_neg c45] at H
                          have c45b0 : (t142 == 0) = false := beq_eq_false_iff_ne.mpr c45
                          (try simp only [hl7_1] at c45b0)
                          have c45b1 : (t142 != 0) = true := bne_iff_ne.mpr c45
                          (try simp only [hl7_1] at c45b1)
                          (first | rw [c45b0] | (simp only [i64_w, i32_w]; rw [c45b0]) | skip)
                          have H' := Aside0.mk H
                          clear H
                          go_wp2
                          go_meet
                          case rel => exact ⟨_, (true), (by first | rfl | (simp; done) | (simp [*]; done)), H', ⟨by have := HK1.out; first | omega | exact Nat.le_refl _⟩, ⟨by (try simp only [hl7_1]); (with_reducible repeat (first | apply Kd.R_alloc | apply Kd.R_drewN | apply Kd.R_drew)); exact Kd.R_mono HO144.out (fun _ hk => ⟨hk.1.1.2.2.2.1, ⟨hk.1.1.2.2.2.2, hk.2⟩⟩)⟩, ⟨by (try simp only [hl7_1]); (with_reducible repeat (first | apply Kd.R_alloc | apply Kd.R_drewN | apply Kd.R_drew)); exact Kd.R_mono HO151.out (fun _ hk => ⟨hk.1.1.2.2.1, ⟨hk.1.1.2.2.2.2, hk.2⟩⟩)⟩, ⟨by (try simp only [hl7_1]); (with_reducible repeat (first | apply Kd.R_alloc | apply Kd.R_drewN | apply Kd.R_drew)); exact Kd.R_mono HO155.out (fun _ hk => ⟨hk.1.1.2.2.1, ⟨hk.1.1.2.2.2.2, hk.2⟩⟩)⟩, ⟨by (try simp only [hl7_1]); (with_reducible repeat (first | apply Kd.R_alloc | apply Kd.R_drewN | apply Kd.R_drew)); exact Kd.R_mono HO163.out (fun _ hk => ⟨hk.1.1.1.1.2, ⟨hk.1.1.2, hk.1.2⟩⟩)⟩, ⟨by repeat (first | (with_reducible first | exact HB.out | apply below_alloc | apply pw_below_drewN | apply below_drew1) | exact HB.out)⟩⟩
                      case rest =>
                        clear HC32
                        try clear c1
                        try clear p1
                        try clear q1
                        try clear hx1
                        try clear c2
                        try clear p2
                        try clear c3
                        try clear p3
                        try clear q3
                        try clear hx3
                        try clear hf3
                        try clear c4
                        try clear c4b0
                        try clear c4b1
                        try clear c5
                        try clear c5b0
                        try clear c5b1
                        try clear p6
                        try clear p8
                        try clear c9
                        try clear c9b0
                        try clear c10
                        try clear c10b0
                        try clear c11
                        try clear c11b0
                        try clear c12
                        try clear c12b0
                        try clear c13
                        try clear p13
                        try clear q13
                        try clear hx13
                        try clear c14
                        try clear c14b0
                        try clear p15
                        try clear q15
                        try clear hx15
                        try clear hf15
                        try clear p16
                        try clear q16
                        try clear c19
                        try clear c24
                        try clear c24b0
                        try clear c24b1
                        try clear c25
                        try clear c25b0
                        try clear c25b1
                        try clear c26
                        try clear c26b0
                        try clear c26b1
                        try clear c26b2
                        try clear c28
                        try clear c28b0
                        try clear c29
                        try clear c29b0
                        try clear c30
                        try clear p30
                        try clear q30
                        try clear hx30
                        try clear hf30
                        try clear c45
                        try clear c45b0
                        try clear c45b1
                        try clear c46
                        try clear c46b0
                        try clear c46b1
                        try clear c47
                        try clear c47b0
                        try clear c47b1
                        try clear c48
                        try clear c48b0
                        try clear c48b1
                        try clear c49
                        try clear c49b0
                        try clear c49b1
                        try clear c49b2
                        try clear c50
                        try clear c50b0
                        try clear c50b1
                        try clear c50b2
                        try clear c51
                        try clear c51b0
                        try clear c51b1
                        try clear c51b2
                        try clear hx133_0
                        try clear hx134_0
                        try clear hx15_0
                        try clear hx30_0
                        try clear p133
                        try clear p134
                        try clear p15
                        try clear p16
                        try clear p2
                        try clear p30
                        try clear q133
                        try clear q134
                        try clear q15
                        try clear q16
                        try clear q30
                        obtain ⟨kq, x128_31, rfl, HA, HJ31, HO_10, HO_12, HO_14, HO_17, HB⟩ := hcut
                        cases kq with
                        | zero => exact absurd HA.out (by simp [culletlaw15_summed.j1])
                        | succ kj31 =>
                          have H := HA.out
                          clear HA
                          simp only [culletlaw15_summed.j1] at H
                          by_cases c62 : x128_31 = true
                          · subst c62
                            have H1 : (some false) = some r := by rw [if_pos rfl] at H; exact H
                            clear H
                            have H := H1
                            clear H1
                            obtain rfl := Option.some.inj H
                            go_wp2
                            go_ret
                            exact ⟨by first | rfl | (simp [errW_none, errW_some] <;> rfl) | (simp only [← hji27]; first | rfl | (simp [errW_none, errW_some] <;> rfl)) | (simp [*, errW_none, errW_some] <;> rfl), by repeat (first | (with_reducible first | exact HB.out | apply below_alloc | apply pw_below_drewN | apply below_drew1) | exact HB.out)⟩
                          · replace c62 := Bool.eq_false_iff.mpr c62
                            subst c62
                            have H1 : (culletlaw15_summed.l1 kj31 (Go.bits .and .i64 a2 65535) x8_1 t141 t148 t152 t160 (t152.length : Int) 0) = some r := by rw [if_neg (show ¬ (false = true) by decide)] at H; exact H
                            clear H
                            have H := H1
                            clear H1
                            have H' := Aside0.mk H
                            clear H
                            obtain ⟨Ao63, co63, eo63⟩ := Kd.R_slice HO_14.out
                            subst eo63
                            go_wp2
                            go_loopg [131] kj31 (fun kq v131 w' => ∃ (x131_3 : Int), v131 = .int .i64 x131_3 ∧ Aside0 (culletlaw15_summed.l1 kq (Go.bits .and .i64 a2 65535) x8_1 t141 t148 t152 t160 (t152.length : Int) x131_3 = some r) ∧ Aside0 (kq ≤ kj31) ∧ Aside0 (Kd.R (Kd.int .u16) 33 w' w.heap.size (fun k_ => some k_ ≠ (v150 : Value).ownBlock ∧ some k_ ≠ ((.slice Ao63 t152.length co63) : Value).ownBlock ∧ some k_ ≠ (v162 : Value).ownBlock) v143 t141) ∧ Aside0 (Kd.R (Kd.int .u16) 33 w' w.heap.size (fun k_ => some k_ ≠ (v143 : Value).ownBlock ∧ some k_ ≠ ((.slice Ao63 t152.length co63) : Value).ownBlock ∧ some k_ ≠ (v162 : Value).ownBlock) v150 t148) ∧ Aside0 (Kd.R (Kd.int .u16) 33 w' w.heap.size (fun k_ => some k_ ≠ (v143 : Value).ownBlock ∧ some k_ ≠ (v150 : Value).ownBlock ∧ some k_ ≠ (v162 : Value).ownBlock) (.slice Ao63 t152.length co63) t152) ∧ Aside0 (Kd.R (Kd.int .u16) 33 w' w.heap.size (fun k_ => some k_ ≠ (v143 : Value).ownBlock ∧ some k_ ≠ (v150 : Value).ownBlock ∧ some k_ ≠ ((.slice Ao63 t152.length co63) : Value).ownBlock) v162 t160) ∧ Aside0 (Below w.heap.size w w'))
                            case atStart => exact ⟨(0), (by first | rfl | (simp; done) | (simp [*]; done)), H', ⟨Nat.le_refl _⟩, ⟨by (try simp only [hl7_1]); (with_reducible repeat (first | apply Kd.R_alloc | apply Kd.R_drewN | apply Kd.R_drew)); exact HO_10.out⟩, ⟨by (try simp only [hl7_1]); (with_reducible repeat (first | apply Kd.R_alloc | apply Kd.R_drewN | apply Kd.R_drew)); exact HO_12.out⟩, ⟨by (try simp only [hl7_1]); (with_reducible repeat (first | apply Kd.R_alloc | apply Kd.R_drewN | apply Kd.R_drew)); exact HO_14.out⟩, ⟨by (try simp only [hl7_1]); (with_reducible repeat (first | apply Kd.R_alloc | apply Kd.R_drewN | apply Kd.R_drew)); exact HO_17.out⟩, ⟨by repeat (first | (with_reducible first | exact HB.out | apply below_alloc | apply pw_below_drewN | apply below_drew1) | exact HB.out)⟩⟩
                            case round =>
                              clear H'
                              try clear c1
                              try clear p1
                              try clear q1
                              try clear hx1
                              try clear c2
                              try clear p2
                              try clear c3
                              try clear p3
                              try clear q3
                              try clear hx3
                              try clear hf3
                              try clear c4
                              try clear c4b0
                              try clear c4b1
                              try clear c5
                              try clear c5b0
                              try clear c5b1
                              try clear c6
                              try clear p6
                              try clear p8
                              try clear c9
                              try clear c9b0
                              try clear c10
                              try clear c10b0
                              try clear c11
                              try clear c11b0
                              try clear c12
                              try clear c12b0
                              try clear c13
                              try clear p13
                              try clear q13
                              try clear hx13
                              try clear c14
                              try clear c14b0
                              try clear p15
                              try clear q15
                              try clear hx15
                              try clear hf15
                              try clear p16
                              try clear q16
                              try clear c19
                              try clear c24
                              try clear c24b0
                              try clear c24b1
                              try clear c25
                              try clear c25b0
                              try clear c25b1
                              try clear c26
                              try clear c26b0
                              try clear c26b1
                              try clear c26b2
                              try clear c28
                              try clear c28b0
                              try clear c29
                              try clear c29b0
                              try clear c30
                              try clear p30
                              try clear q30
                              try clear hx30
                              try clear hf30
                              try clear c45
                              try clear c45b0
                              try clear c45b1
                              try clear c46
                              try clear c46b0
                              try clear c46b1
                              try clear c47
                              try clear c47b0
                              try clear c47b1
                              try clear c48
                              try clear c48b0
                              try clear c48b1
                              try clear c49
                              try clear c49b0
                              try clear c49b1
                              try clear c49b2
                              try clear c50
                              try clear c50b0
                              try clear c50b1
                              try clear c50b2
                              try clear c51
                              try clear c51b0
                              try clear c51b1
                              try clear c51b2
                              try clear c62
                              try clear hx133_0
                              try clear hx134_0
                              try clear hx15_0
                              try clear hx30_0
                              try clear p1
                              try clear p13
                              try clear p133
                              try clear p134
                              try clear p15
                              try clear p16
                              try clear p2
                              try clear p3
                              try clear p30
                              try clear p6
                              try clear p8
                              try clear q1
                              try clear q13
                              try clear q133
                              try clear q134
                              try clear q15
                              try clear q16
                              try clear q3
                              try clear q30
                              obtain ⟨x131_3, rfl, HA, HK3, HO_10, HO_12, HO_14, HO_17, HB⟩ := hrel
                              cases gk with
                              | zero => exact absurd HA.out (by simp [culletlaw15_summed.l1])
                              | succ k3 =>
                                have H := HA.out
                                clear HA
                                simp only [culletlaw15_summed.l1] at H
                                by_cases c64 : x131_3 < (t152.length : Int)
                                · rw [if_pos c64] at H
                                  have c64b0 : decide (x131_3 < (t152.length : Int)) = true := decide_eq_true c64
                                  (try simp only [hl7_1] at c64b0)
                                  clear c64
                                  by_cases c65 : 0 ≤ x131_3
                                  · rw [if_pos c65] at H
                                    have c65b0 : decide (0 ≤ x131_3) = true := decide_eq_true c65
                                    (try simp only [hl7_1] at c65b0)
                                    clear c65
                                    by_cases c66 : x131_3 < (t152.length : Int)
                                    · rw [if_pos c66] at H
                                      have c66b0 : decide (x131_3 < (t152.length : Int)) = true := decide_eq_true c66
                                      (try simp only [hl7_1] at c66b0)
                                      clear c66
                                      by_cases c67 : x131_3 < (t141.length : Int)
                                      · rw [if_pos c67] at H
                                        have c67b0 : decide (x131_3 < (t141.length : Int)) = true := decide_eq_true c67
                                        (try simp only [hl7_1] at c67b0)
                                        clear c67
                                        by_cases c68 : x131_3 < (t148.length : Int)
                                        · rw [if_pos c68] at H
                                          have c68b0 : decide (x131_3 < (t148.length : Int)) = true := decide_eq_true c68
                                          (try simp only [hl7_1] at c68b0)
                                          clear c68
                                          replace H := Option.bind_eq_some_iff.mp H
                                          obtain ⟨t167, A690, H⟩ := H
                                          replace H : (if (rd t152 x131_3) = t167 then (if x131_3 < (t160.length : Int) then (if (rd t160 x131_3) = 1 then (culletlaw15_summed.l1 k3 (Go.bits .and .i64 a2 65535) x8_1 t141 t148 t152 t160 (t152.length : Int) (wrap64 (x131_3 + 1))) else (if (rd t160 x131_3) = 65534 then (culletlaw15_summed.l1 k3 (Go.bits .and .i64 a2 65535) x8_1 t141 t148 t152 t160 (t152.length : Int) (wrap64 (x131_3 + 1))) else (some false))) else (none)) else (some false)) = some r := H
                                          have A69 := Aside0.mk A690
                                          clear A690
                                          by_cases c70 : (rd t152 x131_3) = t167
                                          · rw [if_pos c70] at H
                                            have c70b0 : ((rd t152 x131_3) == t167) = true := beq_iff_eq.mpr c70
                                            (try simp only [hl7_1] at c70b0)
                                            have c70b1 : ((rd t152 x131_3) != t167) = false := bne_eq_false_iff_eq.mpr c70
                                            (try simp only [hl7_1] at c70b1)
                                            clear c70
                                            by_cases c71 : x131_3 < (t160.length : Int)
                                            · rw [if_pos c71] at H
                                              have c71b0 : decide (x131_3 < (t160.length : Int)) = true := decide_eq_true c71
                                              (try simp only [hl7_1] at c71b0)
                                              clear c71
                                              by_cases c72 : (rd t160 x131_3) = 1
                                              · rw [if_pos c72] at H
                                                have c72b0 : ((rd t160 x131_3) == 1) = true := beq_iff_eq.mpr c72
                                                (try simp only [hl7_1] at c72b0)
                                                have c72b1 : ((rd t160 x131_3) != 1) = false := bne_eq_false_iff_eq.mpr c72
                                                (try simp only [hl7_1] at c72b1)
                                                clear c72
                                                have H' := Aside0.mk H
                                                clear H
                                                try go_wp2
                                                have n0_ := Aside0.mk (Kd.R_drew HO_10.out)
                                                have n1_ := Aside0.mk (Kd.R_drew HO_12.out)
                                                have n2_ := Aside0.mk (Kd.R_drew HO_14.out)
                                                have n3_ := Aside0.mk (Kd.R_drew HO_17.out)
                                                have n4_ := Aside0.mk (below_drew1 HB.out)
                                                clear HO_10
                                                clear HO_12
                                                clear HO_14
                                                clear HO_17
                                                clear HB
                                                have HO_10 := n0_
                                                have HO_12 := n1_
                                                have HO_14 := n2_
                                                have HO_17 := n3_
                                                have HB := n4_
                                                clear n0_ n1_ n2_ n3_ n4_
                                                have p164 : 0 ≤ (x131_3 : Int) := of_decide_eq_true (by first | (with_reducible assumption) | assumption)
                                                have q164 : x131_3 < (t152.length : Int) := of_decide_eq_true (by first | (with_reducible assumption) | assumption)
                                                obtain ⟨ad164, e164, hx164_0⟩ := Kd.at_int (Kd.R_reads' HO_14.out).2.2 x131_3 p164 q164
                                                cases e164
                                                replace p164 := eq_true p164
                                                replace q164 := eq_true q164
                                                obtain ⟨Ao74, co74, eo74⟩ := Kd.R_slice HO_10.out
                                                (first | subst eo74 | (injection eo74 with f1_ f2_ f3_; have f4_ := f1_.symm; have f5_ := f3_.symm; clear f1_ f2_ f3_; subst f4_; subst f5_))
                                                have p165 : 0 ≤ (x131_3 : Int) := of_decide_eq_true (by first | (with_reducible assumption) | assumption)
                                                have q165 : x131_3 < (t141.length : Int) := of_decide_eq_true (by first | (with_reducible assumption) | assumption)
                                                obtain ⟨ad165, e165, hx165_0⟩ := Kd.at_int (Kd.R_reads' HO_10.out).2.2 x131_3 p165 q165
                                                cases e165
                                                replace p165 := eq_true p165
                                                replace q165 := eq_true q165
                                                obtain ⟨Ao75, co75, eo75⟩ := Kd.R_slice HO_12.out
                                                (first | subst eo75 | (injection eo75 with f1_ f2_ f3_; have f4_ := f1_.symm; have f5_ := f3_.symm; clear f1_ f2_ f3_; subst f4_; subst f5_))
                                                have p166 : 0 ≤ (x131_3 : Int) := of_decide_eq_true (by first | (with_reducible assumption) | assumption)
                                                have q166 : x131_3 < (t148.length : Int) := of_decide_eq_true (by first | (with_reducible assumption) | assumption)
                                                obtain ⟨ad166, e166, hx166_0⟩ := Kd.at_int (Kd.R_reads' HO_12.out).2.2 x131_3 p166 q166
                                                cases e166
                                                replace p166 := eq_true p166
                                                replace q166 := eq_true q166
                                                have p168 : 0 ≤ (x131_3 : Int) := of_decide_eq_true (by first | (with_reducible assumption) | assumption)
                                                have q168 : x131_3 < (t160.length : Int) := of_decide_eq_true (by first | (with_reducible assumption) | assumption)
                                                obtain ⟨Aoz989, coz989, eoz989⟩ := Kd.R_slice HO_17.out
                                                subst eoz989
                                                obtain ⟨ad168, e168, hx168_0⟩ := Kd.at_int (Kd.R_reads' HO_17.out).2.2 x131_3 p168 q168
                                                cases e168
                                                replace p168 := eq_true p168
                                                replace q168 := eq_true q168
                                                refine start_ (n := 33) (S := fun w' => w'.cell? (ad164.add (x131_3).toNat) = some (.int .u16 (rd t152 x131_3)) ∧ w'.cell? (ad165.add (x131_3).toNat) = some (.int .u16 (rd t141 x131_3)) ∧ w'.cell? (ad166.add (x131_3).toNat) = some (.int .u16 (rd t148 x131_3)) ∧ w'.cell? (ad168.add (x131_3).toNat) = some (.int .u16 (rd t160 x131_3))) (ds := []) #[false, false, false, false, false, false, false, false, false, false, false, false, false, false, false, false, false, false, false, false, false, false, false, false, false, false, false, false, false, false, false, false, false] (by kernel_rfl) rfl rfl ⟨hx164_0, hx165_0, hx166_0, hx168_0⟩ (fun hHeld => ?_); refine with_tabW culletlaw15_summed.tab21 culletlaw15_summed.bits21 (fun HT_ HW_ => ?_)
                                                generalize wr.drew = w73 at HO_10 HO_12 HO_14 HO_17 HB hx164_0 hx165_0 hx166_0 hx168_0 hHeld ⊢
                                                refine pure_ (i := 0) (N := some 134) (v := ?_) (a' := ?_) #[true, false, false, false, false, false, false, false, false, false, false, false, false, false, false, false, false, false, false, false, false, false, false, false, false, false, false, false, false, false, false, false, false] rfl rfl (any_of HT_.out (by kernel_rfl)) (fun _ _ _ h => h) (Or.inl ⟨by rfl, ?_⟩) ?_ ?_
                                                rotate_left
                                                · intro w'
                                                  go_simp
                                                  with_reducible rfl
                                                rotate_left
                                                · simp only [Act.put, List.setIfInBounds_toArray, List.set_cons_zero, List.set_cons_succ, i64_w, i32_w]
                                                  rfl
                                                refine pure_ (i := 1) (N := some 135) (v := ?_) (a' := ?_) #[true, true, false, false, false, false, false, false, false, false, false, false, false, false, false, false, false, false, false, false, false, false, false, false, false, false, false, false, false, false, false, false, false] rfl rfl (any_of HT_.out (by kernel_rfl)) (fun _ _ _ h => h) (Or.inl ⟨by rfl, ?_⟩) ?_ ?_
                                                rotate_left
                                                · intro w'
                                                  go_simp
                                                  with_reducible rfl
                                                rotate_left
                                                · simp only [Act.put, List.setIfInBounds_toArray, List.set_cons_zero, List.set_cons_succ, i64_w, i32_w]
                                                  rfl
                                                refine pure_ (i := 2) (N := some 136) (v := ?_) (a' := ?_) #[true, true, true, false, false, false, false, false, false, false, false, false, false, false, false, false, false, false, false, false, false, false, false, false, false, false, false, false, false, false, false, false, false] rfl rfl (any_of HT_.out (by kernel_rfl)) (fun _ _ _ h => h) (Or.inl ⟨by rfl, ?_⟩) ?_ ?_
                                                rotate_left
                                                · intro w'
                                                  go_simp
                                                  with_reducible rfl
                                                rotate_left
                                                · simp only [Act.put, List.setIfInBounds_toArray, List.set_cons_zero, List.set_cons_succ, i64_w, i32_w]
                                                  rfl
                                                refine pure_ (i := 4) (N := some 138) (v := ?_) (a' := ?_) #[true, true, true, false, true, false, false, false, false, false, false, false, false, false, false, false, false, false, false, false, false, false, false, false, false, false, false, false, false, false, false, false, false] rfl rfl (any_of HT_.out (by kernel_rfl)) (fun _ _ _ h => h) (Or.inl ⟨by rfl, ?_⟩) ?_ ?_
                                                rotate_left
                                                · intro w'
                                                  go_simp
                                                  with_reducible rfl
                                                rotate_left
                                                · simp only [Act.put, List.setIfInBounds_toArray, List.set_cons_zero, List.set_cons_succ, i64_w, i32_w]
                                                  rfl
                                                refine pure_ (i := 5) (N := some 139) (v := ?_) (a' := ?_) #[true, true, true, false, true, true, false, false, false, false, false, false, false, false, false, false, false, false, false, false, false, false, false, false, false, false, false, false, false, false, false, false, false] rfl rfl (any_of HT_.out (by kernel_rfl)) (fun _ _ _ h => h) (Or.inl ⟨by rfl, ?_⟩) ?_ ?_
                                                rotate_left
                                                · intro w'
                                                  go_simp
                                                  with_reducible rfl
                                                rotate_left
                                                · simp only [Act.put, List.setIfInBounds_toArray, List.set_cons_zero, List.set_cons_succ, i64_w, i32_w]
                                                  rfl
                                                refine pure_ (i := 6) (N := some 140) (v := ?_) (a' := ?_) #[true, true, true, false, true, true, true, false, false, false, false, false, false, false, false, false, false, false, false, false, false, false, false, false, false, false, false, false, false, false, false, false, false] rfl rfl (any_of HT_.out (by kernel_rfl)) (fun _ _ _ h => h) (Or.inl ⟨by rfl, ?_⟩) ?_ ?_
                                                rotate_left
                                                · intro w'
                                                  go_simp
                                                  with_reducible rfl
                                                rotate_left
                                                · simp only [Act.put, List.setIfInBounds_toArray, List.set_cons_zero, List.set_cons_succ, i64_w, i32_w]
                                                  rfl
                                                refine pure_ (i := 9) (N := some 143) (v := ?_) (a' := ?_) #[true, true, true, false, true, true, true, false, false, true, false, false, false, false, false, false, false, false, false, false, false, false, false, false, false, false, false, false, false, false, false, false, false] rfl rfl (any_of HT_.out (by kernel_rfl)) (fun _ _ _ h => h) (Or.inl ⟨by rfl, ?_⟩) ?_ ?_
                                                rotate_left
                                                · intro w'
                                                  go_simp
                                                  with_reducible rfl
                                                rotate_left
                                                · simp only [Act.put, List.setIfInBounds_toArray, List.set_cons_zero, List.set_cons_succ, i64_w, i32_w]
                                                  rfl
                                                refine pure_ (i := 10) (N := some 144) (v := ?_) (a' := ?_) #[true, true, true, false, true, true, true, false, false, true, true, false, false, false, false, false, false, false, false, false, false, false, false, false, false, false, false, false, false, false, false, false, false] rfl rfl (any_of HT_.out (by kernel_rfl)) (fun _ _ _ h => h) (Or.inl ⟨by rfl, ?_⟩) ?_ ?_
                                                rotate_left
                                                · intro w'
                                                  go_simp
                                                  with_reducible rfl
                                                rotate_left
                                                · simp only [Act.put, List.setIfInBounds_toArray, List.set_cons_zero, List.set_cons_succ, i64_w, i32_w]
                                                  rfl
                                                refine pure_ (i := 11) (N := some 145) (v := ?_) (a' := ?_) #[true, true, true, false, true, true, true, false, false, true, true, true, false, false, false, false, false, false, false, false, false, false, false, false, false, false, false, false, false, false, false, false, false] rfl rfl (any_of HT_.out (by kernel_rfl)) (fun _ _ _ h => h) (Or.inl ⟨by rfl, ?_⟩) ?_ ?_
                                                rotate_left
                                                · intro w'
                                                  go_simp
                                                  with_reducible rfl
                                                rotate_left
                                                · simp only [Act.put, List.setIfInBounds_toArray, List.set_cons_zero, List.set_cons_succ, i64_w, i32_w]
                                                  rfl
                                                refine pure_ (i := 12) (N := some 146) (v := ?_) (a' := ?_) #[true, true, true, false, true, true, true, false, false, true, true, true, true, false, false, false, false, false, false, false, false, false, false, false, false, false, false, false, false, false, false, false, false] rfl rfl (any_of HT_.out (by kernel_rfl)) (fun _ _ _ h => h) (Or.inl ⟨by rfl, ?_⟩) ?_ ?_
                                                rotate_left
                                                · intro w'
                                                  go_simp
                                                  with_reducible rfl
                                                rotate_left
                                                · simp only [Act.put, List.setIfInBounds_toArray, List.set_cons_zero, List.set_cons_succ, i64_w, i32_w]
                                                  rfl
                                                refine take_ (i := 3) (N := some 137) (v := ?_) (a' := ?_) #[true, true, true, true, true, true, true, false, false, true, true, true, true, false, false, false, false, false, false, false, false, false, false, false, false, false, false, false, false, false, false, false, false] rfl rfl (take_ofW HT_.out HW_.out (by kernel_rfl)) (fun _ _ _ h => h) (Or.inl ⟨by rfl, ?_⟩) hHeld ?_ ?_
                                                rotate_left
                                                · rintro w' ⟨s0, s1, s2, s3⟩
                                                  go_simp
                                                  with_reducible rfl
                                                rotate_left
                                                · simp only [Act.put, List.setIfInBounds_toArray, List.set_cons_zero, List.set_cons_succ, i64_w, i32_w]
                                                  rfl
                                                refine take_ (i := 7) (N := some 141) (v := ?_) (a' := ?_) #[true, true, true, true, true, true, true, true, false, true, true, true, true, false, false, false, false, false, false, false, false, false, false, false, false, false, false, false, false, false, false, false, false] rfl rfl (take_ofW HT_.out HW_.out (by kernel_rfl)) (fun _ _ _ h => h) (Or.inl ⟨by rfl, ?_⟩) hHeld ?_ ?_
                                                rotate_left
                                                · rintro w' ⟨s0, s1, s2, s3⟩
                                                  go_simp
                                                  with_reducible rfl
                                                rotate_left
                                                · simp only [Act.put, List.setIfInBounds_toArray, List.set_cons_zero, List.set_cons_succ, i64_w, i32_w]
                                                  rfl
                                                refine pure_ (i := 8) (N := some 142) (v := ?_) (a' := ?_) #[true, true, true, true, true, true, true, true, true, true, true, true, true, false, false, false, false, false, false, false, false, false, false, false, false, false, false, false, false, false, false, false, false] rfl rfl (any_of HT_.out (by kernel_rfl)) (fun _ _ _ h => h) (Or.inl ⟨by rfl, ?_⟩) ?_ ?_
                                                rotate_left
                                                · intro w'
                                                  go_simp
                                                  with_reducible rfl
                                                rotate_left
                                                · simp only [Act.put, List.setIfInBounds_toArray, List.set_cons_zero, List.set_cons_succ, i64_w, i32_w]
                                                  rfl
                                                refine take_ (i := 13) (N := some 147) (v := ?_) (a' := ?_) #[true, true, true, true, true, true, true, true, true, true, true, true, true, true, false, false, false, false, false, false, false, false, false, false, false, false, false, false, false, false, false, false, false] rfl rfl (take_ofW HT_.out HW_.out (by kernel_rfl)) (fun _ _ _ h => h) (Or.inl ⟨by rfl, ?_⟩) hHeld ?_ ?_
                                                rotate_left
                                                · rintro w' ⟨s0, s1, s2, s3⟩
                                                  go_simp
                                                  with_reducible rfl
                                                rotate_left
                                                · simp only [Act.put, List.setIfInBounds_toArray, List.set_cons_zero, List.set_cons_succ, i64_w, i32_w]
                                                  rfl
                                                refine pure_ (i := 14) (N := some 148) (v := ?_) (a' := ?_) #[true, true, true, true, true, true, true, true, true, true, true, true, true, true, true, false, false, false, false, false, false, false, false, false, false, false, false, false, false, false, false, false, false] rfl rfl (any_of HT_.out (by kernel_rfl)) (fun _ _ _ h => h) (Or.inl ⟨by rfl, ?_⟩) ?_ ?_
                                                rotate_left
                                                · intro w'
                                                  go_simp
                                                  with_reducible rfl
                                                rotate_left
                                                · simp only [Act.put, List.setIfInBounds_toArray, List.set_cons_zero, List.set_cons_succ, i64_w, i32_w]
                                                  rfl
                                                refine pure_ (i := 15) (N := some 149) (v := ?_) (a' := ?_) #[true, true, true, true, true, true, true, true, true, true, true, true, true, true, true, true, false, false, false, false, false, false, false, false, false, false, false, false, false, false, false, false, false] rfl rfl (any_of HT_.out (by kernel_rfl)) (fun _ _ _ h => h) (Or.inl ⟨by rfl, ?_⟩) ?_ ?_
                                                rotate_left
                                                · intro w'
                                                  go_simp
                                                  with_reducible rfl
                                                rotate_left
                                                · simp only [Act.put, List.setIfInBounds_toArray, List.set_cons_zero, List.set_cons_succ, i64_w, i32_w]
                                                  rfl
                                                refine pure_ (i := 16) (N := some 150) (v := ?_) (a' := ?_) #[true, true, true, true, true, true, true, true, true, true, true, true, true, true, true, true, true, false, false, false, false, false, false, false, false, false, false, false, false, false, false, false, false] rfl rfl (any_of HT_.out (by kernel_rfl)) (fun _ _ _ h => h) (Or.inl ⟨by rfl, ?_⟩) ?_ ?_
                                                rotate_left
                                                · intro w'
                                                  go_simp
                                                  with_reducible rfl
                                                rotate_left
                                                · simp only [Act.put, List.setIfInBounds_toArray, List.set_cons_zero, List.set_cons_succ, i64_w, i32_w]
                                                  rfl
                                                refine one_ (i := 17) (N := some 151) #[true, true, true, true, true, true, true, true, true, true, true, true, true, true, true, true, true, true, false, false, false, false, false, false, false, false, false, false, false, false, false, false, false] rfl rfl (one_of HT_.out (by kernel_rfl)) (by decide) (fun K hK => ?_)
                                                refine goes_ Try.func19 (by kernel_rfl) rfl #[.int .i64 (wrap64 ((wrap64 (rd t141 x131_3)) + (wrap64 ((Go.bits .and .i64 a2 65535) * (wrap64 (rd t148 x131_3))))))] (by rfl) rfl rfl (by (try simp only [List.map_toArray, List.map_cons, List.map_nil]); first | done | rfl | (simp only [tb_wrap8]; done) | (simp only [tb_wrap8]; rfl) | (simp only [List.length_drop, List.length_take]; rfl)) ?_
                                                with_reducible refine (culletlaw15_brought.calls (wrap64 ((wrap64 (rd t141 x131_3)) + (wrap64 ((Go.bits .and .i64 a2 65535) * (wrap64 (rd t148 x131_3)))))) t167 _ A69.out).mono ?_
                                                rintro e w' ⟨rfl, ⟨nd, rfl⟩⟩
                                                refine ⟨_, rfl, ?_⟩
                                                obtain ⟨Ao76, co76, eo76⟩ := Kd.R_slice HO_17.out
                                                (first | subst eo76 | (injection eo76 with f1_ f2_ f3_; have f4_ := f1_.symm; have f5_ := f3_.symm; clear f1_ f2_ f3_; subst f4_; subst f5_))
                                                refine hK.out _ _ ⟨hHeld.1, hHeld.2.1, hHeld.2.2.1, hHeld.2.2.2⟩ (fun hHeld => ?_)
                                                clear hK K
                                                refine norm_ (a' := ?_) ?_ ?_
                                                rotate_left
                                                · show Act.put _ (some 151) _ = _
                                                  simp only [Act.put, List.setIfInBounds_toArray, List.set_cons_zero, List.set_cons_succ, i64_w, i32_w]
                                                  rfl
                                                refine pure_ (i := 18) (N := some 152) (v := ?_) (a' := ?_) #[true, true, true, true, true, true, true, true, true, true, true, true, true, true, true, true, true, true, true, false, false, false, false, false, false, false, false, false, false, false, false, false, false] rfl rfl (any_of HT_.out (by kernel_rfl)) (fun _ _ _ h => h) (Or.inl ⟨by rfl, ?_⟩) ?_ ?_
                                                rotate_left
                                                · intro w'
                                                  go_simp
                                                  with_reducible rfl
                                                rotate_left
                                                · simp only [Act.put, List.setIfInBounds_toArray, List.set_cons_zero, List.set_cons_succ, i64_w, i32_w]
                                                  rfl
                                                refine pure_ (i := 19) (N := some 153) (v := ?_) (a' := ?_) #[true, true, true, true, true, true, true, true, true, true, true, true, true, true, true, true, true, true, true, true, false, false, false, false, false, false, false, false, false, false, false, false, false] rfl rfl (any_of HT_.out (by kernel_rfl)) (fun _ _ _ h => h) (Or.inl ⟨by rfl, ?_⟩) ?_ ?_
                                                rotate_left
                                                · intro w'
                                                  go_simp
                                                  with_reducible rfl
                                                rotate_left
                                                · simp only [Act.put, List.setIfInBounds_toArray, List.set_cons_zero, List.set_cons_succ, i64_w, i32_w]
                                                  rfl
                                                refine pure_ (i := 20) (N := some 154) (v := ?_) (a' := ?_) #[true, true, true, true, true, true, true, true, true, true, true, true, true, true, true, true, true, true, true, true, true, false, false, false, false, false, false, false, false, false, false, false, false] rfl rfl (any_of HT_.out (by kernel_rfl)) (fun _ _ _ h => h) (Or.inl ⟨by rfl, ?_⟩) ?_ ?_
                                                rotate_left
                                                · intro w'
                                                  go_simp
                                                  with_reducible rfl
                                                rotate_left
                                                · simp only [Act.put, List.setIfInBounds_toArray, List.set_cons_zero, List.set_cons_succ, i64_w, i32_w]
                                                  rfl
                                                refine pure_ (i := 21) (N := some 155) (v := ?_) (a' := ?_) #[true, true, true, true, true, true, true, true, true, true, true, true, true, true, true, true, true, true, true, true, true, true, false, false, false, false, false, false, false, false, false, false, false] rfl rfl (any_of HT_.out (by kernel_rfl)) (fun _ _ _ h => h) (Or.inl ⟨by rfl, ?_⟩) ?_ ?_
                                                rotate_left
                                                · intro w'
                                                  go_simp
                                                  with_reducible rfl
                                                rotate_left
                                                · simp only [Act.put, List.setIfInBounds_toArray, List.set_cons_zero, List.set_cons_succ, i64_w, i32_w]
                                                  rfl
                                                refine pure_ (i := 22) (N := some 156) (v := ?_) (a' := ?_) #[true, true, true, true, true, true, true, true, true, true, true, true, true, true, true, true, true, true, true, true, true, true, true, false, false, false, false, false, false, false, false, false, false] rfl rfl (any_of HT_.out (by kernel_rfl)) (fun _ _ _ h => h) (Or.inl ⟨by rfl, ?_⟩) ?_ ?_
                                                rotate_left
                                                · intro w'
                                                  go_simp
                                                  with_reducible rfl
                                                rotate_left
                                                · simp only [Act.put, List.setIfInBounds_toArray, List.set_cons_zero, List.set_cons_succ, i64_w, i32_w]
                                                  rfl
                                                refine take_ (i := 23) (N := some 157) (v := ?_) (a' := ?_) #[true, true, true, true, true, true, true, true, true, true, true, true, true, true, true, true, true, true, true, true, true, true, true, true, false, false, false, false, false, false, false, false, false] rfl rfl (take_ofW HT_.out HW_.out (by kernel_rfl)) (fun _ _ _ h => h) (Or.inl ⟨by rfl, ?_⟩) hHeld ?_ ?_
                                                rotate_left
                                                · rintro w' ⟨s0, s1, s2, s3⟩
                                                  go_simp
                                                  with_reducible rfl
                                                rotate_left
                                                · simp only [Act.put, List.setIfInBounds_toArray, List.set_cons_zero, List.set_cons_succ, i64_w, i32_w]
                                                  rfl
                                                refine pure_ (i := 24) (N := some 158) (v := ?_) (a' := ?_) #[true, true, true, true, true, true, true, true, true, true, true, true, true, true, true, true, true, true, true, true, true, true, true, true, true, false, false, false, false, false, false, false, false] rfl rfl (any_of HT_.out (by kernel_rfl)) (fun _ _ _ h => h) (Or.inl ⟨by rfl, ?_⟩) ?_ ?_
                                                rotate_left
                                                · intro w'
                                                  go_simp
                                                  with_reducible rfl
                                                rotate_left
                                                · simp only [Act.put, List.setIfInBounds_toArray, List.set_cons_zero, List.set_cons_succ, i64_w, i32_w]
                                                  rfl
                                                refine pure_ (i := 25) (N := some 159) (v := ?_) (a' := ?_) #[true, true, true, true, true, true, true, true, true, true, true, true, true, true, true, true, true, true, true, true, true, true, true, true, true, true, false, false, false, false, false, false, false] rfl rfl (any_of HT_.out (by kernel_rfl)) (fun _ _ _ h => h) (Or.inl ⟨by rfl, ?_⟩) ?_ ?_
                                                rotate_left
                                                · intro w'
                                                  go_simp
                                                  with_reducible rfl
                                                rotate_left
                                                · simp only [Act.put, List.setIfInBounds_toArray, List.set_cons_zero, List.set_cons_succ, i64_w, i32_w]
                                                  rfl
                                                refine pure_ (i := 26) (N := some 160) (v := undef) (a' := ?_) #[true, true, true, true, true, true, true, true, true, true, true, true, true, true, true, true, true, true, true, true, true, true, true, true, true, true, true, false, false, false, false, false, false] rfl rfl (any_of HT_.out (by kernel_rfl)) (fun _ _ _ h => h) (Or.inr ⟨by rfl, rfl⟩) ?_ ?_
                                                rotate_left
                                                · simp only [Act.put, List.setIfInBounds_toArray, List.set_cons_zero, List.set_cons_succ, i64_w, i32_w]
                                                  rfl
                                                refine pure_ (i := 27) (N := some 161) (v := undef) (a' := ?_) #[true, true, true, true, true, true, true, true, true, true, true, true, true, true, true, true, true, true, true, true, true, true, true, true, true, true, true, true, false, false, false, false, false] rfl rfl (any_of HT_.out (by kernel_rfl)) (fun _ _ _ h => h) (Or.inr ⟨by rfl, rfl⟩) ?_ ?_
                                                rotate_left
                                                · simp only [Act.put, List.setIfInBounds_toArray, List.set_cons_zero, List.set_cons_succ, i64_w, i32_w]
                                                  rfl
                                                refine pure_ (i := 28) (N := some 162) (v := undef) (a' := ?_) #[true, true, true, true, true, true, true, true, true, true, true, true, true, true, true, true, true, true, true, true, true, true, true, true, true, true, true, true, true, false, false, false, false] rfl rfl (any_of HT_.out (by kernel_rfl)) (fun _ _ _ h => h) (Or.inr ⟨by rfl, rfl⟩) ?_ ?_
                                                rotate_left
                                                · simp only [Act.put, List.setIfInBounds_toArray, List.set_cons_zero, List.set_cons_succ, i64_w, i32_w]
                                                  rfl
                                                refine pure_ (i := 29) (N := some 163) (v := undef) (a' := ?_) #[true, true, true, true, true, true, true, true, true, true, true, true, true, true, true, true, true, true, true, true, true, true, true, true, true, true, true, true, true, true, false, false, false] rfl rfl (any_of HT_.out (by kernel_rfl)) (fun _ _ _ h => h) (Or.inr ⟨by rfl, rfl⟩) ?_ ?_
                                                rotate_left
                                                · simp only [Act.put, List.setIfInBounds_toArray, List.set_cons_zero, List.set_cons_succ, i64_w, i32_w]
                                                  rfl
                                                refine pure_ (i := 30) (N := some 164) (v := undef) (a' := ?_) #[true, true, true, true, true, true, true, true, true, true, true, true, true, true, true, true, true, true, true, true, true, true, true, true, true, true, true, true, true, true, true, false, false] rfl rfl (any_of HT_.out (by kernel_rfl)) (fun _ _ _ h => h) (Or.inr ⟨by rfl, rfl⟩) ?_ ?_
                                                rotate_left
                                                · simp only [Act.put, List.setIfInBounds_toArray, List.set_cons_zero, List.set_cons_succ, i64_w, i32_w]
                                                  rfl
                                                refine pure_ (i := 31) (N := some 165) (v := ?_) (a' := ?_) #[true, true, true, true, true, true, true, true, true, true, true, true, true, true, true, true, true, true, true, true, true, true, true, true, true, true, true, true, true, true, true, true, false] rfl rfl (any_of HT_.out (by kernel_rfl)) (fun _ _ _ h => h) (Or.inl ⟨by rfl, ?_⟩) ?_ ?_
                                                rotate_left
                                                · intro w'
                                                  go_simp
                                                  with_reducible rfl
                                                rotate_left
                                                · simp only [Act.put, List.setIfInBounds_toArray, List.set_cons_zero, List.set_cons_succ, i64_w, i32_w]
                                                  rfl
                                                refine pure_ (i := 32) (N := some 166) (v := ?_) (a' := ?_) #[true, true, true, true, true, true, true, true, true, true, true, true, true, true, true, true, true, true, true, true, true, true, true, true, true, true, true, true, true, true, true, true, true] rfl rfl (any_of HT_.out (by kernel_rfl)) (fun _ _ _ h => h) (Or.inl ⟨by rfl, ?_⟩) ?_ ?_
                                                rotate_left
                                                · intro w'
                                                  go_simp
                                                  with_reducible rfl
                                                rotate_left
                                                · simp only [Act.put, List.setIfInBounds_toArray, List.set_cons_zero, List.set_cons_succ, i64_w, i32_w]
                                                  rfl
                                                refine done_ (done_of HT_.out (by kernel_rfl)) ?_
                                                try go_wp2
                                                go_roundg k3
                                                case measure => have := HK1.out; have := HJ31.out; have := HK3.out; omega
                                                case rel => exact ⟨(wrap64 (x131_3 + 1)), (by first | rfl | (simp; done) | (simp [*]; done)), H', ⟨by have := HK1.out; have := HJ31.out; have := HK3.out; omega⟩, ⟨by (try simp only [hl7_1]); (with_reducible repeat (first | apply Kd.R_alloc | apply Kd.R_drewN | apply Kd.R_drew)); exact HO_10.out⟩, ⟨by (try simp only [hl7_1]); (with_reducible repeat (first | apply Kd.R_alloc | apply Kd.R_drewN | apply Kd.R_drew)); exact HO_12.out⟩, ⟨by (try simp only [hl7_1]); (with_reducible repeat (first | apply Kd.R_alloc | apply Kd.R_drewN | apply Kd.R_drew)); exact HO_14.out⟩, ⟨by (try simp only [hl7_1]); (with_reducible repeat (first | apply Kd.R_alloc | apply Kd.R_drewN | apply Kd.R_drew)); exact HO_17.out⟩, ⟨by repeat (first | (with_reducible first | exact HB.out | apply below_alloc | apply pw_below_drewN | apply below_drew1) | exact HB.out)⟩⟩
                                              · rw [if_neg c72] at H
                                                have c72b0 : ((rd t160 x131_3) == 1) = false := beq_eq_false_iff_ne.mpr c72
                                                (try simp only [hl7_1] at c72b0)
                                                have c72b1 : ((rd t160 x131_3) != 1) = true := bne_iff_ne.mpr c72
                                                (try simp only [hl7_1] at c72b1)
                                                by_cases c77 : (rd t160 x131_3) = 65534
                                                · rw [if_pos c77] at H
                                                  have c77b0 : ((rd t160 x131_3) == 65534) = true := beq_iff_eq.mpr c77
                                                  (try simp only [hl7_1] at c77b0)
                                                  have c77b1 : ((rd t160 x131_3) != 65534) = false := bne_eq_false_iff_eq.mpr c77
                                                  (try simp only [hl7_1] at c77b1)
                                                  clear c77
                                                  have H' := Aside0.mk H
                                                  clear H
                                                  try go_wp2
                                                  have n0_ := Aside0.mk (Kd.R_drew HO_10.out)
                                                  have n1_ := Aside0.mk (Kd.R_drew HO_12.out)
                                                  have n2_ := Aside0.mk (Kd.R_drew HO_14.out)
                                                  have n3_ := Aside0.mk (Kd.R_drew HO_17.out)
                                                  have n4_ := Aside0.mk (below_drew1 HB.out)
                                                  clear HO_10
                                                  clear HO_12
                                                  clear HO_14
                                                  clear HO_17
                                                  clear HB
                                                  have HO_10 := n0_
                                                  have HO_12 := n1_
                                                  have HO_14 := n2_
                                                  have HO_17 := n3_
                                                  have HB := n4_
                                                  clear n0_ n1_ n2_ n3_ n4_
                                                  have p164 : 0 ≤ (x131_3 : Int) := of_decide_eq_true (by first | (with_reducible assumption) | assumption)
                                                  have q164 : x131_3 < (t152.length : Int) := of_decide_eq_true (by first | (with_reducible assumption) | assumption)
                                                  obtain ⟨ad164, e164, hx164_0⟩ := Kd.at_int (Kd.R_reads' HO_14.out).2.2 x131_3 p164 q164
                                                  cases e164
                                                  replace p164 := eq_true p164
                                                  replace q164 := eq_true q164
                                                  obtain ⟨Ao79, co79, eo79⟩ := Kd.R_slice HO_10.out
                                                  (first | subst eo79 | (injection eo79 with f1_ f2_ f3_; have f4_ := f1_.symm; have f5_ := f3_.symm; clear f1_ f2_ f3_; subst f4_; subst f5_))
                                                  have p165 : 0 ≤ (x131_3 : Int) := of_decide_eq_true (by first | (with_reducible assumption) | assumption)
                                                  have q165 : x131_3 < (t141.length : Int) := of_decide_eq_true (by first | (with_reducible assumption) | assumption)
                                                  obtain ⟨ad165, e165, hx165_0⟩ := Kd.at_int (Kd.R_reads' HO_10.out).2.2 x131_3 p165 q165
                                                  cases e165
                                                  replace p165 := eq_true p165
                                                  replace q165 := eq_true q165
                                                  obtain ⟨Ao80, co80, eo80⟩ := Kd.R_slice HO_12.out
                                                  (first | subst eo80 | (injection eo80 with f1_ f2_ f3_; have f4_ := f1_.symm; have f5_ := f3_.symm; clear f1_ f2_ f3_; subst f4_; subst f5_))
                                                  have p166 : 0 ≤ (x131_3 : Int) := of_decide_eq_true (by first | (with_reducible assumption) | assumption)
                                                  have q166 : x131_3 < (t148.length : Int) := of_decide_eq_true (by first | (with_reducible assumption) | assumption)
                                                  obtain ⟨ad166, e166, hx166_0⟩ := Kd.at_int (Kd.R_reads' HO_12.out).2.2 x131_3 p166 q166
                                                  cases e166
                                                  replace p166 := eq_true p166
                                                  replace q166 := eq_true q166
                                                  have p168 : 0 ≤ (x131_3 : Int) := of_decide_eq_true (by first | (with_reducible assumption) | assumption)
                                                  have q168 : x131_3 < (t160.length : Int) := of_decide_eq_true (by first | (with_reducible assumption) | assumption)
                                                  obtain ⟨Aoz1305, coz1305, eoz1305⟩ := Kd.R_slice HO_17.out
                                                  subst eoz1305
                                                  obtain ⟨ad168, e168, hx168_0⟩ := Kd.at_int (Kd.R_reads' HO_17.out).2.2 x131_3 p168 q168
                                                  cases e168
                                                  replace p168 := eq_true p168
                                                  replace q168 := eq_true q168
                                                  have p169 : 0 ≤ (x131_3 : Int) := of_decide_eq_true (by first | (with_reducible assumption) | assumption)
                                                  have q169 : x131_3 < (t160.length : Int) := of_decide_eq_true (by first | (with_reducible assumption) | assumption)
                                                  obtain ⟨ad169, e169, hx169_0⟩ := Kd.at_int (Kd.R_reads' HO_17.out).2.2 x131_3 p169 q169
                                                  obtain rfl : ad168 = ad169 := (by injection e169)
                                                  replace p169 := eq_true p169
                                                  replace q169 := eq_true q169
                                                  refine start_ (n := 33) (S := fun w' => w'.cell? (ad164.add (x131_3).toNat) = some (.int .u16 (rd t152 x131_3)) ∧ w'.cell? (ad165.add (x131_3).toNat) = some (.int .u16 (rd t141 x131_3)) ∧ w'.cell? (ad166.add (x131_3).toNat) = some (.int .u16 (rd t148 x131_3)) ∧ w'.cell? (ad168.add (x131_3).toNat) = some (.int .u16 (rd t160 x131_3)) ∧ w'.cell? (ad168.add (x131_3).toNat) = some (.int .u16 (rd t160 x131_3))) (ds := []) #[false, false, false, false, false, false, false, false, false, false, false, false, false, false, false, false, false, false, false, false, false, false, false, false, false, false, false, false, false, false, false, false, false] (by kernel_rfl) rfl rfl ⟨hx164_0, hx165_0, hx166_0, hx168_0, hx169_0⟩ (fun hHeld => ?_); refine with_tabW culletlaw15_summed.tab21 culletlaw15_summed.bits21 (fun HT_ HW_ => ?_)
                                                  generalize wr.drew = w78 at HO_10 HO_12 HO_14 HO_17 HB hx164_0 hx165_0 hx166_0 hx168_0 hx169_0 hHeld ⊢
                                                  refine pure_ (i := 0) (N := some 134) (v := ?_) (a' := ?_) #[true, false, false, false, false, false, false, false, false, false, false, false, false, false, false, false, false, false, false, false, false, false, false, false, false, false, false, false, false, false, false, false, false] rfl rfl (any_of HT_.out (by kernel_rfl)) (fun _ _ _ h => h) (Or.inl ⟨by rfl, ?_⟩) ?_ ?_
                                                  rotate_left
                                                  · intro w'
                                                    go_simp
                                                    with_reducible rfl
                                                  rotate_left
                                                  · simp only [Act.put, List.setIfInBounds_toArray, List.set_cons_zero, List.set_cons_succ, i64_w, i32_w]
                                                    rfl
                                                  refine pure_ (i := 1) (N := some 135) (v := ?_) (a' := ?_) #[true, true, false, false, false, false, false, false, false, false, false, false, false, false, false, false, false, false, false, false, false, false, false, false, false, false, false, false, false, false, false, false, false] rfl rfl (any_of HT_.out (by kernel_rfl)) (fun _ _ _ h => h) (Or.inl ⟨by rfl, ?_⟩) ?_ ?_
                                                  rotate_left
                                                  · intro w'
                                                    go_simp
                                                    with_reducible rfl
                                                  rotate_left
                                                  · simp only [Act.put, List.setIfInBounds_toArray, List.set_cons_zero, List.set_cons_succ, i64_w, i32_w]
                                                    rfl
                                                  refine pure_ (i := 2) (N := some 136) (v := ?_) (a' := ?_) #[true, true, true, false, false, false, false, false, false, false, false, false, false, false, false, false, false, false, false, false, false, false, false, false, false, false, false, false, false, false, false, false, false] rfl rfl (any_of HT_.out (by kernel_rfl)) (fun _ _ _ h => h) (Or.inl ⟨by rfl, ?_⟩) ?_ ?_
                                                  rotate_left
                                                  · intro w'
                                                    go_simp
                                                    with_reducible rfl
                                                  rotate_left
                                                  · simp only [Act.put, List.setIfInBounds_toArray, List.set_cons_zero, List.set_cons_succ, i64_w, i32_w]
                                                    rfl
                                                  refine pure_ (i := 4) (N := some 138) (v := ?_) (a' := ?_) #[true, true, true, false, true, false, false, false, false, false, false, false, false, false, false, false, false, false, false, false, false, false, false, false, false, false, false, false, false, false, false, false, false] rfl rfl (any_of HT_.out (by kernel_rfl)) (fun _ _ _ h => h) (Or.inl ⟨by rfl, ?_⟩) ?_ ?_
                                                  rotate_left
                                                  · intro w'
                                                    go_simp
                                                    with_reducible rfl
                                                  rotate_left
                                                  · simp only [Act.put, List.setIfInBounds_toArray, List.set_cons_zero, List.set_cons_succ, i64_w, i32_w]
                                                    rfl
                                                  refine pure_ (i := 5) (N := some 139) (v := ?_) (a' := ?_) #[true, true, true, false, true, true, false, false, false, false, false, false, false, false, false, false, false, false, false, false, false, false, false, false, false, false, false, false, false, false, false, false, false] rfl rfl (any_of HT_.out (by kernel_rfl)) (fun _ _ _ h => h) (Or.inl ⟨by rfl, ?_⟩) ?_ ?_
                                                  rotate_left
                                                  · intro w'
                                                    go_simp
                                                    with_reducible rfl
                                                  rotate_left
                                                  · simp only [Act.put, List.setIfInBounds_toArray, List.set_cons_zero, List.set_cons_succ, i64_w, i32_w]
                                                    rfl
                                                  refine pure_ (i := 6) (N := some 140) (v := ?_) (a' := ?_) #[true, true, true, false, true, true, true, false, false, false, false, false, false, false, false, false, false, false, false, false, false, false, false, false, false, false, false, false, false, false, false, false, false] rfl rfl (any_of HT_.out (by kernel_rfl)) (fun _ _ _ h => h) (Or.inl ⟨by rfl, ?_⟩) ?_ ?_
                                                  rotate_left
                                                  · intro w'
                                                    go_simp
                                                    with_reducible rfl
                                                  rotate_left
                                                  · simp only [Act.put, List.setIfInBounds_toArray, List.set_cons_zero, List.set_cons_succ, i64_w, i32_w]
                                                    rfl
                                                  refine pure_ (i := 9) (N := some 143) (v := ?_) (a' := ?_) #[true, true, true, false, true, true, true, false, false, true, false, false, false, false, false, false, false, false, false, false, false, false, false, false, false, false, false, false, false, false, false, false, false] rfl rfl (any_of HT_.out (by kernel_rfl)) (fun _ _ _ h => h) (Or.inl ⟨by rfl, ?_⟩) ?_ ?_
                                                  rotate_left
                                                  · intro w'
                                                    go_simp
                                                    with_reducible rfl
                                                  rotate_left
                                                  · simp only [Act.put, List.setIfInBounds_toArray, List.set_cons_zero, List.set_cons_succ, i64_w, i32_w]
                                                    rfl
                                                  refine pure_ (i := 10) (N := some 144) (v := ?_) (a' := ?_) #[true, true, true, false, true, true, true, false, false, true, true, false, false, false, false, false, false, false, false, false, false, false, false, false, false, false, false, false, false, false, false, false, false] rfl rfl (any_of HT_.out (by kernel_rfl)) (fun _ _ _ h => h) (Or.inl ⟨by rfl, ?_⟩) ?_ ?_
                                                  rotate_left
                                                  · intro w'
                                                    go_simp
                                                    with_reducible rfl
                                                  rotate_left
                                                  · simp only [Act.put, List.setIfInBounds_toArray, List.set_cons_zero, List.set_cons_succ, i64_w, i32_w]
                                                    rfl
                                                  refine pure_ (i := 11) (N := some 145) (v := ?_) (a' := ?_) #[true, true, true, false, true, true, true, false, false, true, true, true, false, false, false, false, false, false, false, false, false, false, false, false, false, false, false, false, false, false, false, false, false] rfl rfl (any_of HT_.out (by kernel_rfl)) (fun _ _ _ h => h) (Or.inl ⟨by rfl, ?_⟩) ?_ ?_
                                                  rotate_left
                                                  · intro w'
                                                    go_simp
                                                    with_reducible rfl
                                                  rotate_left
                                                  · simp only [Act.put, List.setIfInBounds_toArray, List.set_cons_zero, List.set_cons_succ, i64_w, i32_w]
                                                    rfl
                                                  refine pure_ (i := 12) (N := some 146) (v := ?_) (a' := ?_) #[true, true, true, false, true, true, true, false, false, true, true, true, true, false, false, false, false, false, false, false, false, false, false, false, false, false, false, false, false, false, false, false, false] rfl rfl (any_of HT_.out (by kernel_rfl)) (fun _ _ _ h => h) (Or.inl ⟨by rfl, ?_⟩) ?_ ?_
                                                  rotate_left
                                                  · intro w'
                                                    go_simp
                                                    with_reducible rfl
                                                  rotate_left
                                                  · simp only [Act.put, List.setIfInBounds_toArray, List.set_cons_zero, List.set_cons_succ, i64_w, i32_w]
                                                    rfl
                                                  refine take_ (i := 3) (N := some 137) (v := ?_) (a' := ?_) #[true, true, true, true, true, true, true, false, false, true, true, true, true, false, false, false, false, false, false, false, false, false, false, false, false, false, false, false, false, false, false, false, false] rfl rfl (take_ofW HT_.out HW_.out (by kernel_rfl)) (fun _ _ _ h => h) (Or.inl ⟨by rfl, ?_⟩) hHeld ?_ ?_
                                                  rotate_left
                                                  · rintro w' ⟨s0, s1, s2, s3, s4⟩
                                                    go_simp
                                                    with_reducible rfl
                                                  rotate_left
                                                  · simp only [Act.put, List.setIfInBounds_toArray, List.set_cons_zero, List.set_cons_succ, i64_w, i32_w]
                                                    rfl
                                                  refine take_ (i := 7) (N := some 141) (v := ?_) (a' := ?_) #[true, true, true, true, true, true, true, true, false, true, true, true, true, false, false, false, false, false, false, false, false, false, false, false, false, false, false, false, false, false, false, false, false] rfl rfl (take_ofW HT_.out HW_.out (by kernel_rfl)) (fun _ _ _ h => h) (Or.inl ⟨by rfl, ?_⟩) hHeld ?_ ?_
                                                  rotate_left
                                                  · rintro w' ⟨s0, s1, s2, s3, s4⟩
                                                    go_simp
                                                    with_reducible rfl
                                                  rotate_left
                                                  · simp only [Act.put, List.setIfInBounds_toArray, List.set_cons_zero, List.set_cons_succ, i64_w, i32_w]
                                                    rfl
                                                  refine pure_ (i := 8) (N := some 142) (v := ?_) (a' := ?_) #[true, true, true, true, true, true, true, true, true, true, true, true, true, false, false, false, false, false, false, false, false, false, false, false, false, false, false, false, false, false, false, false, false] rfl rfl (any_of HT_.out (by kernel_rfl)) (fun _ _ _ h => h) (Or.inl ⟨by rfl, ?_⟩) ?_ ?_
                                                  rotate_left
                                                  · intro w'
                                                    go_simp
                                                    with_reducible rfl
                                                  rotate_left
                                                  · simp only [Act.put, List.setIfInBounds_toArray, List.set_cons_zero, List.set_cons_succ, i64_w, i32_w]
                                                    rfl
                                                  refine take_ (i := 13) (N := some 147) (v := ?_) (a' := ?_) #[true, true, true, true, true, true, true, true, true, true, true, true, true, true, false, false, false, false, false, false, false, false, false, false, false, false, false, false, false, false, false, false, false] rfl rfl (take_ofW HT_.out HW_.out (by kernel_rfl)) (fun _ _ _ h => h) (Or.inl ⟨by rfl, ?_⟩) hHeld ?_ ?_
                                                  rotate_left
                                                  · rintro w' ⟨s0, s1, s2, s3, s4⟩
                                                    go_simp
                                                    with_reducible rfl
                                                  rotate_left
                                                  · simp only [Act.put, List.setIfInBounds_toArray, List.set_cons_zero, List.set_cons_succ, i64_w, i32_w]
                                                    rfl
                                                  refine pure_ (i := 14) (N := some 148) (v := ?_) (a' := ?_) #[true, true, true, true, true, true, true, true, true, true, true, true, true, true, true, false, false, false, false, false, false, false, false, false, false, false, false, false, false, false, false, false, false] rfl rfl (any_of HT_.out (by kernel_rfl)) (fun _ _ _ h => h) (Or.inl ⟨by rfl, ?_⟩) ?_ ?_
                                                  rotate_left
                                                  · intro w'
                                                    go_simp
                                                    with_reducible rfl
                                                  rotate_left
                                                  · simp only [Act.put, List.setIfInBounds_toArray, List.set_cons_zero, List.set_cons_succ, i64_w, i32_w]
                                                    rfl
                                                  refine pure_ (i := 15) (N := some 149) (v := ?_) (a' := ?_) #[true, true, true, true, true, true, true, true, true, true, true, true, true, true, true, true, false, false, false, false, false, false, false, false, false, false, false, false, false, false, false, false, false] rfl rfl (any_of HT_.out (by kernel_rfl)) (fun _ _ _ h => h) (Or.inl ⟨by rfl, ?_⟩) ?_ ?_
                                                  rotate_left
                                                  · intro w'
                                                    go_simp
                                                    with_reducible rfl
                                                  rotate_left
                                                  · simp only [Act.put, List.setIfInBounds_toArray, List.set_cons_zero, List.set_cons_succ, i64_w, i32_w]
                                                    rfl
                                                  refine pure_ (i := 16) (N := some 150) (v := ?_) (a' := ?_) #[true, true, true, true, true, true, true, true, true, true, true, true, true, true, true, true, true, false, false, false, false, false, false, false, false, false, false, false, false, false, false, false, false] rfl rfl (any_of HT_.out (by kernel_rfl)) (fun _ _ _ h => h) (Or.inl ⟨by rfl, ?_⟩) ?_ ?_
                                                  rotate_left
                                                  · intro w'
                                                    go_simp
                                                    with_reducible rfl
                                                  rotate_left
                                                  · simp only [Act.put, List.setIfInBounds_toArray, List.set_cons_zero, List.set_cons_succ, i64_w, i32_w]
                                                    rfl
                                                  refine one_ (i := 17) (N := some 151) #[true, true, true, true, true, true, true, true, true, true, true, true, true, true, true, true, true, true, false, false, false, false, false, false, false, false, false, false, false, false, false, false, false] rfl rfl (one_of HT_.out (by kernel_rfl)) (by decide) (fun K hK => ?_)
                                                  refine goes_ Try.func19 (by kernel_rfl) rfl #[.int .i64 (wrap64 ((wrap64 (rd t141 x131_3)) + (wrap64 ((Go.bits .and .i64 a2 65535) * (wrap64 (rd t148 x131_3))))))] (by rfl) rfl rfl (by (try simp only [List.map_toArray, List.map_cons, List.map_nil]); first | done | rfl | (simp only [tb_wrap8]; done) | (simp only [tb_wrap8]; rfl) | (simp only [List.length_drop, List.length_take]; rfl)) ?_
                                                  with_reducible refine (culletlaw15_brought.calls (wrap64 ((wrap64 (rd t141 x131_3)) + (wrap64 ((Go.bits .and .i64 a2 65535) * (wrap64 (rd t148 x131_3)))))) t167 _ A69.out).mono ?_
                                                  rintro e w' ⟨rfl, ⟨nd, rfl⟩⟩
                                                  refine ⟨_, rfl, ?_⟩
                                                  obtain ⟨Ao81, co81, eo81⟩ := Kd.R_slice HO_17.out
                                                  (first | subst eo81 | (injection eo81 with f1_ f2_ f3_; have f4_ := f1_.symm; have f5_ := f3_.symm; clear f1_ f2_ f3_; subst f4_; subst f5_))
                                                  refine hK.out _ _ ⟨hHeld.1, hHeld.2.1, hHeld.2.2.1, hHeld.2.2.2.1, hHeld.2.2.2.2⟩ (fun hHeld => ?_)
                                                  clear hK K
                                                  refine norm_ (a' := ?_) ?_ ?_
                                                  rotate_left
                                                  · show Act.put _ (some 151) _ = _
                                                    simp only [Act.put, List.setIfInBounds_toArray, List.set_cons_zero, List.set_cons_succ, i64_w, i32_w]
                                                    rfl
                                                  refine pure_ (i := 18) (N := some 152) (v := ?_) (a' := ?_) #[true, true, true, true, true, true, true, true, true, true, true, true, true, true, true, true, true, true, true, false, false, false, false, false, false, false, false, false, false, false, false, false, false] rfl rfl (any_of HT_.out (by kernel_rfl)) (fun _ _ _ h => h) (Or.inl ⟨by rfl, ?_⟩) ?_ ?_
                                                  rotate_left
                                                  · intro w'
                                                    go_simp
                                                    with_reducible rfl
                                                  rotate_left
                                                  · simp only [Act.put, List.setIfInBounds_toArray, List.set_cons_zero, List.set_cons_succ, i64_w, i32_w]
                                                    rfl
                                                  refine pure_ (i := 19) (N := some 153) (v := ?_) (a' := ?_) #[true, true, true, true, true, true, true, true, true, true, true, true, true, true, true, true, true, true, true, true, false, false, false, false, false, false, false, false, false, false, false, false, false] rfl rfl (any_of HT_.out (by kernel_rfl)) (fun _ _ _ h => h) (Or.inl ⟨by rfl, ?_⟩) ?_ ?_
                                                  rotate_left
                                                  · intro w'
                                                    go_simp
                                                    with_reducible rfl
                                                  rotate_left
                                                  · simp only [Act.put, List.setIfInBounds_toArray, List.set_cons_zero, List.set_cons_succ, i64_w, i32_w]
                                                    rfl
                                                  refine pure_ (i := 20) (N := some 154) (v := ?_) (a' := ?_) #[true, true, true, true, true, true, true, true, true, true, true, true, true, true, true, true, true, true, true, true, true, false, false, false, false, false, false, false, false, false, false, false, false] rfl rfl (any_of HT_.out (by kernel_rfl)) (fun _ _ _ h => h) (Or.inl ⟨by rfl, ?_⟩) ?_ ?_
                                                  rotate_left
                                                  · intro w'
                                                    go_simp
                                                    with_reducible rfl
                                                  rotate_left
                                                  · simp only [Act.put, List.setIfInBounds_toArray, List.set_cons_zero, List.set_cons_succ, i64_w, i32_w]
                                                    rfl
                                                  refine pure_ (i := 21) (N := some 155) (v := ?_) (a' := ?_) #[true, true, true, true, true, true, true, true, true, true, true, true, true, true, true, true, true, true, true, true, true, true, false, false, false, false, false, false, false, false, false, false, false] rfl rfl (any_of HT_.out (by kernel_rfl)) (fun _ _ _ h => h) (Or.inl ⟨by rfl, ?_⟩) ?_ ?_
                                                  rotate_left
                                                  · intro w'
                                                    go_simp
                                                    with_reducible rfl
                                                  rotate_left
                                                  · simp only [Act.put, List.setIfInBounds_toArray, List.set_cons_zero, List.set_cons_succ, i64_w, i32_w]
                                                    rfl
                                                  refine pure_ (i := 22) (N := some 156) (v := ?_) (a' := ?_) #[true, true, true, true, true, true, true, true, true, true, true, true, true, true, true, true, true, true, true, true, true, true, true, false, false, false, false, false, false, false, false, false, false] rfl rfl (any_of HT_.out (by kernel_rfl)) (fun _ _ _ h => h) (Or.inl ⟨by rfl, ?_⟩) ?_ ?_
                                                  rotate_left
                                                  · intro w'
                                                    go_simp
                                                    with_reducible rfl
                                                  rotate_left
                                                  · simp only [Act.put, List.setIfInBounds_toArray, List.set_cons_zero, List.set_cons_succ, i64_w, i32_w]
                                                    rfl
                                                  refine take_ (i := 23) (N := some 157) (v := ?_) (a' := ?_) #[true, true, true, true, true, true, true, true, true, true, true, true, true, true, true, true, true, true, true, true, true, true, true, true, false, false, false, false, false, false, false, false, false] rfl rfl (take_ofW HT_.out HW_.out (by kernel_rfl)) (fun _ _ _ h => h) (Or.inl ⟨by rfl, ?_⟩) hHeld ?_ ?_
                                                  rotate_left
                                                  · rintro w' ⟨s0, s1, s2, s3, s4⟩
                                                    go_simp
                                                    with_reducible rfl
                                                  rotate_left
                                                  · simp only [Act.put, List.setIfInBounds_toArray, List.set_cons_zero, List.set_cons_succ, i64_w, i32_w]
                                                    rfl
                                                  refine pure_ (i := 24) (N := some 158) (v := ?_) (a' := ?_) #[true, true, true, true, true, true, true, true, true, true, true, true, true, true, true, true, true, true, true, true, true, true, true, true, true, false, false, false, false, false, false, false, false] rfl rfl (any_of HT_.out (by kernel_rfl)) (fun _ _ _ h => h) (Or.inl ⟨by rfl, ?_⟩) ?_ ?_
                                                  rotate_left
                                                  · intro w'
                                                    go_simp
                                                    with_reducible rfl
                                                  rotate_left
                                                  · simp only [Act.put, List.setIfInBounds_toArray, List.set_cons_zero, List.set_cons_succ, i64_w, i32_w]
                                                    rfl
                                                  refine pure_ (i := 25) (N := some 159) (v := ?_) (a' := ?_) #[true, true, true, true, true, true, true, true, true, true, true, true, true, true, true, true, true, true, true, true, true, true, true, true, true, true, false, false, false, false, false, false, false] rfl rfl (any_of HT_.out (by kernel_rfl)) (fun _ _ _ h => h) (Or.inl ⟨by rfl, ?_⟩) ?_ ?_
                                                  rotate_left
                                                  · intro w'
                                                    go_simp
                                                    with_reducible rfl
                                                  rotate_left
                                                  · simp only [Act.put, List.setIfInBounds_toArray, List.set_cons_zero, List.set_cons_succ, i64_w, i32_w]
                                                    rfl
                                                  refine pure_ (i := 26) (N := some 160) (v := ?_) (a' := ?_) #[true, true, true, true, true, true, true, true, true, true, true, true, true, true, true, true, true, true, true, true, true, true, true, true, true, true, true, false, false, false, false, false, false] rfl rfl (any_of HT_.out (by kernel_rfl)) (fun _ _ _ h => h) (Or.inl ⟨by rfl, ?_⟩) ?_ ?_
                                                  rotate_left
                                                  · intro w'
                                                    go_simp
                                                    with_reducible rfl
                                                  rotate_left
                                                  · simp only [Act.put, List.setIfInBounds_toArray, List.set_cons_zero, List.set_cons_succ, i64_w, i32_w]
                                                    rfl
                                                  refine pure_ (i := 27) (N := some 161) (v := ?_) (a' := ?_) #[true, true, true, true, true, true, true, true, true, true, true, true, true, true, true, true, true, true, true, true, true, true, true, true, true, true, true, true, false, false, false, false, false] rfl rfl (any_of HT_.out (by kernel_rfl)) (fun _ _ _ h => h) (Or.inl ⟨by rfl, ?_⟩) ?_ ?_
                                                  rotate_left
                                                  · intro w'
                                                    go_simp
                                                    with_reducible rfl
                                                  rotate_left
                                                  · simp only [Act.put, List.setIfInBounds_toArray, List.set_cons_zero, List.set_cons_succ, i64_w, i32_w]
                                                    rfl
                                                  refine pure_ (i := 28) (N := some 162) (v := ?_) (a' := ?_) #[true, true, true, true, true, true, true, true, true, true, true, true, true, true, true, true, true, true, true, true, true, true, true, true, true, true, true, true, true, false, false, false, false] rfl rfl (any_of HT_.out (by kernel_rfl)) (fun _ _ _ h => h) (Or.inl ⟨by rfl, ?_⟩) ?_ ?_
                                                  rotate_left
                                                  · intro w'
                                                    go_simp
                                                    with_reducible rfl
                                                  rotate_left
                                                  · simp only [Act.put, List.setIfInBounds_toArray, List.set_cons_zero, List.set_cons_succ, i64_w, i32_w]
                                                    rfl
                                                  refine take_ (i := 29) (N := some 163) (v := ?_) (a' := ?_) #[true, true, true, true, true, true, true, true, true, true, true, true, true, true, true, true, true, true, true, true, true, true, true, true, true, true, true, true, true, true, false, false, false] rfl rfl (take_ofW HT_.out HW_.out (by kernel_rfl)) (fun _ _ _ h => h) (Or.inl ⟨by rfl, ?_⟩) hHeld ?_ ?_
                                                  rotate_left
                                                  · rintro w' ⟨s0, s1, s2, s3, s4⟩
                                                    go_simp
                                                    with_reducible rfl
                                                  rotate_left
                                                  · simp only [Act.put, List.setIfInBounds_toArray, List.set_cons_zero, List.set_cons_succ, i64_w, i32_w]
                                                    rfl
                                                  refine pure_ (i := 30) (N := some 164) (v := ?_) (a' := ?_) #[true, true, true, true, true, true, true, true, true, true, true, true, true, true, true, true, true, true, true, true, true, true, true, true, true, true, true, true, true, true, true, false, false] rfl rfl (any_of HT_.out (by kernel_rfl)) (fun _ _ _ h => h) (Or.inl ⟨by rfl, ?_⟩) ?_ ?_
                                                  rotate_left
                                                  · intro w'
                                                    go_simp
                                                    with_reducible rfl
                                                  rotate_left
                                                  · simp only [Act.put, List.setIfInBounds_toArray, List.set_cons_zero, List.set_cons_succ, i64_w, i32_w]
                                                    rfl
                                                  refine pure_ (i := 31) (N := some 165) (v := ?_) (a' := ?_) #[true, true, true, true, true, true, true, true, true, true, true, true, true, true, true, true, true, true, true, true, true, true, true, true, true, true, true, true, true, true, true, true, false] rfl rfl (any_of HT_.out (by kernel_rfl)) (fun _ _ _ h => h) (Or.inl ⟨by rfl, ?_⟩) ?_ ?_
                                                  rotate_left
                                                  · intro w'
                                                    go_simp
                                                    with_reducible rfl
                                                  rotate_left
                                                  · simp only [Act.put, List.setIfInBounds_toArray, List.set_cons_zero, List.set_cons_succ, i64_w, i32_w]
                                                    rfl
                                                  refine pure_ (i := 32) (N := some 166) (v := ?_) (a' := ?_) #[true, true, true, true, true, true, true, true, true, true, true, true, true, true, true, true, true, true, true, true, true, true, true, true, true, true, true, true, true, true, true, true, true] rfl rfl (any_of HT_.out (by kernel_rfl)) (fun _ _ _ h => h) (Or.inl ⟨by rfl, ?_⟩) ?_ ?_
                                                  rotate_left
                                                  · intro w'
                                                    go_simp
                                                    with_reducible rfl
                                                  rotate_left
                                                  · simp only [Act.put, List.setIfInBounds_toArray, List.set_cons_zero, List.set_cons_succ, i64_w, i32_w]
                                                    rfl
                                                  refine done_ (done_of HT_.out (by kernel_rfl)) ?_
                                                  try go_wp2
                                                  go_roundg k3
                                                  case measure => have := HK1.out; have := HJ31.out; have := HK3.out; omega
                                                  case rel => exact ⟨(wrap64 (x131_3 + 1)), (by first | rfl | (simp; done) | (simp [*]; done)), H', ⟨by have := HK1.out; have := HJ31.out; have := HK3.out; omega⟩, ⟨by (try simp only [hl7_1]); (with_reducible repeat (first | apply Kd.R_alloc | apply Kd.R_drewN | apply Kd.R_drew)); exact HO_10.out⟩, ⟨by (try simp only [hl7_1]); (with_reducible repeat (first | apply Kd.R_alloc | apply Kd.R_drewN | apply Kd.R_drew)); exact HO_12.out⟩, ⟨by (try simp only [hl7_1]); (with_reducible repeat (first | apply Kd.R_alloc | apply Kd.R_drewN | apply Kd.R_drew)); exact HO_14.out⟩, ⟨by (try simp only [hl7_1]); (with_reducible repeat (first | apply Kd.R_alloc | apply Kd.R_drewN | apply Kd.R_drew)); exact HO_17.out⟩, ⟨by repeat (first | (with_reducible first | exact HB.out | apply below_alloc | apply pw_below_drewN | apply below_drew1) | exact HB.out)⟩⟩
                                                · rw [if_neg c77] at H
                                                  have c77b0 : ((rd t160 x131_3) == 65534) = false := beq_eq_false_iff_ne.mpr c77
                                                  (try simp only [hl7_1] at c77b0)
                                                  have c77b1 : ((rd t160 x131_3) != 65534) = true := bne_iff_ne.mpr c77
                                                  (try simp only [hl7_1] at c77b1)
                                                  obtain rfl := Option.some.inj H
                                                  try go_wp2
                                                  have n0_ := Aside0.mk (Kd.R_drew HO_10.out)
                                                  have n1_ := Aside0.mk (Kd.R_drew HO_12.out)
                                                  have n2_ := Aside0.mk (Kd.R_drew HO_14.out)
                                                  have n3_ := Aside0.mk (Kd.R_drew HO_17.out)
                                                  have n4_ := Aside0.mk (below_drew1 HB.out)
                                                  clear HO_10
                                                  clear HO_12
                                                  clear HO_14
                                                  clear HO_17
                                                  clear HB
                                                  have HO_10 := n0_
                                                  have HO_12 := n1_
                                                  have HO_14 := n2_
                                                  have HO_17 := n3_
                                                  have HB := n4_
                                                  clear n0_ n1_ n2_ n3_ n4_
                                                  have p164 : 0 ≤ (x131_3 : Int) := of_decide_eq_true (by first | (with_reducible assumption) | assumption)
                                                  have q164 : x131_3 < (t152.length : Int) := of_decide_eq_true (by first | (with_reducible assumption) | assumption)
                                                  obtain ⟨ad164, e164, hx164_0⟩ := Kd.at_int (Kd.R_reads' HO_14.out).2.2 x131_3 p164 q164
                                                  cases e164
                                                  replace p164 := eq_true p164
                                                  replace q164 := eq_true q164
                                                  obtain ⟨Ao83, co83, eo83⟩ := Kd.R_slice HO_10.out
                                                  (first | subst eo83 | (injection eo83 with f1_ f2_ f3_; have f4_ := f1_.symm; have f5_ := f3_.symm; clear f1_ f2_ f3_; subst f4_; subst f5_))
                                                  have p165 : 0 ≤ (x131_3 : Int) := of_decide_eq_true (by first | (with_reducible assumption) | assumption)
                                                  have q165 : x131_3 < (t141.length : Int) := of_decide_eq_true (by first | (with_reducible assumption) | assumption)
                                                  obtain ⟨ad165, e165, hx165_0⟩ := Kd.at_int (Kd.R_reads' HO_10.out).2.2 x131_3 p165 q165
                                                  cases e165
                                                  replace p165 := eq_true p165
                                                  replace q165 := eq_true q165
                                                  obtain ⟨Ao84, co84, eo84⟩ := Kd.R_slice HO_12.out
                                                  (first | subst eo84 | (injection eo84 with f1_ f2_ f3_; have f4_ := f1_.symm; have f5_ := f3_.symm; clear f1_ f2_ f3_; subst f4_; subst f5_))
                                                  have p166 : 0 ≤ (x131_3 : Int) := of_decide_eq_true (by first | (with_reducible assumption) | assumption)
                                                  have q166 : x131_3 < (t148.length : Int) := of_decide_eq_true (by first | (with_reducible assumption) | assumption)
                                                  obtain ⟨ad166, e166, hx166_0⟩ := Kd.at_int (Kd.R_reads' HO_12.out).2.2 x131_3 p166 q166
                                                  cases e166
                                                  replace p166 := eq_true p166
                                                  replace q166 := eq_true q166
                                                  have p168 : 0 ≤ (x131_3 : Int) := of_decide_eq_true (by first | (with_reducible assumption) | assumption)
                                                  have q168 : x131_3 < (t160.length : Int) := of_decide_eq_true (by first | (with_reducible assumption) | assumption)
                                                  obtain ⟨Aoz1639, coz1639, eoz1639⟩ := Kd.R_slice HO_17.out
                                                  subst eoz1639
                                                  obtain ⟨ad168, e168, hx168_0⟩ := Kd.at_int (Kd.R_reads' HO_17.out).2.2 x131_3 p168 q168
                                                  cases e168
                                                  replace p168 := eq_true p168
                                                  replace q168 := eq_true q168
                                                  have p169 : 0 ≤ (x131_3 : Int) := of_decide_eq_true (by first | (with_reducible assumption) | assumption)
                                                  have q169 : x131_3 < (t160.length : Int) := of_decide_eq_true (by first | (with_reducible assumption) | assumption)
                                                  obtain ⟨ad169, e169, hx169_0⟩ := Kd.at_int (Kd.R_reads' HO_17.out).2.2 x131_3 p169 q169
                                                  obtain rfl : ad168 = ad169 := (by injection e169)
                                                  replace p169 := eq_true p169
                                                  replace q169 := eq_true q169
                                                  refine start_ (n := 33) (S := fun w' => w'.cell? (ad164.add (x131_3).toNat) = some (.int .u16 (rd t152 x131_3)) ∧ w'.cell? (ad165.add (x131_3).toNat) = some (.int .u16 (rd t141 x131_3)) ∧ w'.cell? (ad166.add (x131_3).toNat) = some (.int .u16 (rd t148 x131_3)) ∧ w'.cell? (ad168.add (x131_3).toNat) = some (.int .u16 (rd t160 x131_3)) ∧ w'.cell? (ad168.add (x131_3).toNat) = some (.int .u16 (rd t160 x131_3))) (ds := []) #[false, false, false, false, false, false, false, false, false, false, false, false, false, false, false, false, false, false, false, false, false, false, false, false, false, false, false, false, false, false, false, false, false] (by kernel_rfl) rfl rfl ⟨hx164_0, hx165_0, hx166_0, hx168_0, hx169_0⟩ (fun hHeld => ?_); refine with_tabW culletlaw15_summed.tab21 culletlaw15_summed.bits21 (fun HT_ HW_ => ?_)
                                                  generalize wr.drew = w82 at HO_10 HO_12 HO_14 HO_17 HB hx164_0 hx165_0 hx166_0 hx168_0 hx169_0 hHeld ⊢
                                                  refine pure_ (i := 0) (N := some 134) (v := ?_) (a' := ?_) #[true, false, false, false, false, false, false, false, false, false, false, false, false, false, false, false, false, false, false, false, false, false, false, false, false, false, false, false, false, false, false, false, false] rfl rfl (any_of HT_.out (by kernel_rfl)) (fun _ _ _ h => h) (Or.inl ⟨by rfl, ?_⟩) ?_ ?_
                                                  rotate_left
                                                  · intro w'
                                                    go_simp
                                                    with_reducible rfl
                                                  rotate_left
                                                  · simp only [Act.put, List.setIfInBounds_toArray, List.set_cons_zero, List.set_cons_succ, i64_w, i32_w]
                                                    rfl
                                                  refine pure_ (i := 1) (N := some 135) (v := ?_) (a' := ?_) #[true, true, false, false, false, false, false, false, false, false, false, false, false, false, false, false, false, false, false, false, false, false, false, false, false, false, false, false, false, false, false, false, false] rfl rfl (any_of HT_.out (by kernel_rfl)) (fun _ _ _ h => h) (Or.inl ⟨by rfl, ?_⟩) ?_ ?_
                                                  rotate_left
                                                  · intro w'
                                                    go_simp
                                                    with_reducible rfl
                                                  rotate_left
                                                  · simp only [Act.put, List.setIfInBounds_toArray, List.set_cons_zero, List.set_cons_succ, i64_w, i32_w]
                                                    rfl
                                                  refine pure_ (i := 2) (N := some 136) (v := ?_) (a' := ?_) #[true, true, true, false, false, false, false, false, false, false, false, false, false, false, false, false, false, false, false, false, false, false, false, false, false, false, false, false, false, false, false, false, false] rfl rfl (any_of HT_.out (by kernel_rfl)) (fun _ _ _ h => h) (Or.inl ⟨by rfl, ?_⟩) ?_ ?_
                                                  rotate_left
                                                  · intro w'
                                                    go_simp
                                                    with_reducible rfl
                                                  rotate_left
                                                  · simp only [Act.put, List.setIfInBounds_toArray, List.set_cons_zero, List.set_cons_succ, i64_w, i32_w]
                                                    rfl
                                                  refine pure_ (i := 4) (N := some 138) (v := ?_) (a' := ?_) #[true, true, true, false, true, false, false, false, false, false, false, false, false, false, false, false, false, false, false, false, false, false, false, false, false, false, false, false, false, false, false, false, false] rfl rfl (any_of HT_.out (by kernel_rfl)) (fun _ _ _ h => h) (Or.inl ⟨by rfl, ?_⟩) ?_ ?_
                                                  rotate_left
                                                  · intro w'
                                                    go_simp
                                                    with_reducible rfl
                                                  rotate_left
                                                  · simp only [Act.put, List.setIfInBounds_toArray, List.set_cons_zero, List.set_cons_succ, i64_w, i32_w]
                                                    rfl
                                                  refine pure_ (i := 5) (N := some 139) (v := ?_) (a' := ?_) #[true, true, true, false, true, true, false, false, false, false, false, false, false, false, false, false, false, false, false, false, false, false, false, false, false, false, false, false, false, false, false, false, false] rfl rfl (any_of HT_.out (by kernel_rfl)) (fun _ _ _ h => h) (Or.inl ⟨by rfl, ?_⟩) ?_ ?_
                                                  rotate_left
                                                  · intro w'
                                                    go_simp
                                                    with_reducible rfl
                                                  rotate_left
                                                  · simp only [Act.put, List.setIfInBounds_toArray, List.set_cons_zero, List.set_cons_succ, i64_w, i32_w]
                                                    rfl
                                                  refine pure_ (i := 6) (N := some 140) (v := ?_) (a' := ?_) #[true, true, true, false, true, true, true, false, false, false, false, false, false, false, false, false, false, false, false, false, false, false, false, false, false, false, false, false, false, false, false, false, false] rfl rfl (any_of HT_.out (by kernel_rfl)) (fun _ _ _ h => h) (Or.inl ⟨by rfl, ?_⟩) ?_ ?_
                                                  rotate_left
                                                  · intro w'
                                                    go_simp
                                                    with_reducible rfl
                                                  rotate_left
                                                  · simp only [Act.put, List.setIfInBounds_toArray, List.set_cons_zero, List.set_cons_succ, i64_w, i32_w]
                                                    rfl
                                                  refine pure_ (i := 9) (N := some 143) (v := ?_) (a' := ?_) #[true, true, true, false, true, true, true, false, false, true, false, false, false, false, false, false, false, false, false, false, false, false, false, false, false, false, false, false, false, false, false, false, false] rfl rfl (any_of HT_.out (by kernel_rfl)) (fun _ _ _ h => h) (Or.inl ⟨by rfl, ?_⟩) ?_ ?_
                                                  rotate_left
                                                  · intro w'
                                                    go_simp
                                                    with_reducible rfl
                                                  rotate_left
                                                  · simp only [Act.put, List.setIfInBounds_toArray, List.set_cons_zero, List.set_cons_succ, i64_w, i32_w]
                                                    rfl
                                                  refine pure_ (i := 10) (N := some 144) (v := ?_) (a' := ?_) #[true, true, true, false, true, true, true, false, false, true, true, false, false, false, false, false, false, false, false, false, false, false, false, false, false, false, false, false, false, false, false, false, false] rfl rfl (any_of HT_.out (by kernel_rfl)) (fun _ _ _ h => h) (Or.inl ⟨by rfl, ?_⟩) ?_ ?_
                                                  rotate_left
                                                  · intro w'
                                                    go_simp
                                                    with_reducible rfl
                                                  rotate_left
                                                  · simp only [Act.put, List.setIfInBounds_toArray, List.set_cons_zero, List.set_cons_succ, i64_w, i32_w]
                                                    rfl
                                                  refine pure_ (i := 11) (N := some 145) (v := ?_) (a' := ?_) #[true, true, true, false, true, true, true, false, false, true, true, true, false, false, false, false, false, false, false, false, false, false, false, false, false, false, false, false, false, false, false, false, false] rfl rfl (any_of HT_.out (by kernel_rfl)) (fun _ _ _ h => h) (Or.inl ⟨by rfl, ?_⟩) ?_ ?_
                                                  rotate_left
                                                  · intro w'
                                                    go_simp
                                                    with_reducible rfl
                                                  rotate_left
                                                  · simp only [Act.put, List.setIfInBounds_toArray, List.set_cons_zero, List.set_cons_succ, i64_w, i32_w]
                                                    rfl
                                                  refine pure_ (i := 12) (N := some 146) (v := ?_) (a' := ?_) #[true, true, true, false, true, true, true, false, false, true, true, true, true, false, false, false, false, false, false, false, false, false, false, false, false, false, false, false, false, false, false, false, false] rfl rfl (any_of HT_.out (by kernel_rfl)) (fun _ _ _ h => h) (Or.inl ⟨by rfl, ?_⟩) ?_ ?_
                                                  rotate_left
                                                  · intro w'
                                                    go_simp
                                                    with_reducible rfl
                                                  rotate_left
                                                  · simp only [Act.put, List.setIfInBounds_toArray, List.set_cons_zero, List.set_cons_succ, i64_w, i32_w]
                                                    rfl
                                                  refine take_ (i := 3) (N := some 137) (v := ?_) (a' := ?_) #[true, true, true, true, true, true, true, false, false, true, true, true, true, false, false, false, false, false, false, false, false, false, false, false, false, false, false, false, false, false, false, false, false] rfl rfl (take_ofW HT_.out HW_.out (by kernel_rfl)) (fun _ _ _ h => h) (Or.inl ⟨by rfl, ?_⟩) hHeld ?_ ?_
                                                  rotate_left
                                                  · rintro w' ⟨s0, s1, s2, s3, s4⟩
                                                    go_simp
                                                    with_reducible rfl
                                                  rotate_left
                                                  · simp only [Act.put, List.setIfInBounds_toArray, List.set_cons_zero, List.set_cons_succ, i64_w, i32_w]
                                                    rfl
                                                  refine take_ (i := 7) (N := some 141) (v := ?_) (a' := ?_) #[true, true, true, true, true, true, true, true, false, true, true, true, true, false, false, false, false, false, false, false, false, false, false, false, false, false, false, false, false, false, false, false, false] rfl rfl (take_ofW HT_.out HW_.out (by kernel_rfl)) (fun _ _ _ h => h) (Or.inl ⟨by rfl, ?_⟩) hHeld ?_ ?_
                                                  rotate_left
                                                  · rintro w' ⟨s0, s1, s2, s3, s4⟩
                                                    go_simp
                                                    with_reducible rfl
                                                  rotate_left
                                                  · simp only [Act.put, List.setIfInBounds_toArray, List.set_cons_zero, List.set_cons_succ, i64_w, i32_w]
                                                    rfl
                                                  refine pure_ (i := 8) (N := some 142) (v := ?_) (a' := ?_) #[true, true, true, true, true, true, true, true, true, true, true, true, true, false, false, false, false, false, false, false, false, false, false, false, false, false, false, false, false, false, false, false, false] rfl rfl (any_of HT_.out (by kernel_rfl)) (fun _ _ _ h => h) (Or.inl ⟨by rfl, ?_⟩) ?_ ?_
                                                  rotate_left
                                                  · intro w'
                                                    go_simp
                                                    with_reducible rfl
                                                  rotate_left
                                                  · simp only [Act.put, List.setIfInBounds_toArray, List.set_cons_zero, List.set_cons_succ, i64_w, i32_w]
                                                    rfl
                                                  refine take_ (i := 13) (N := some 147) (v := ?_) (a' := ?_) #[true, true, true, true, true, true, true, true, true, true, true, true, true, true, false, false, false, false, false, false, false, false, false, false, false, false, false, false, false, false, false, false, false] rfl rfl (take_ofW HT_.out HW_.out (by kernel_rfl)) (fun _ _ _ h => h) (Or.inl ⟨by rfl, ?_⟩) hHeld ?_ ?_
                                                  rotate_left
                                                  · rintro w' ⟨s0, s1, s2, s3, s4⟩
                                                    go_simp
                                                    with_reducible rfl
                                                  rotate_left
                                                  · simp only [Act.put, List.setIfInBounds_toArray, List.set_cons_zero, List.set_cons_succ, i64_w, i32_w]
                                                    rfl
                                                  refine pure_ (i := 14) (N := some 148) (v := ?_) (a' := ?_) #[true, true, true, true, true, true, true, true, true, true, true, true, true, true, true, false, false, false, false, false, false, false, false, false, false, false, false, false, false, false, false, false, false] rfl rfl (any_of HT_.out (by kernel_rfl)) (fun _ _ _ h => h) (Or.inl ⟨by rfl, ?_⟩) ?_ ?_
                                                  rotate_left
                                                  · intro w'
                                                    go_simp
                                                    with_reducible rfl
                                                  rotate_left
                                                  · simp only [Act.put, List.setIfInBounds_toArray, List.set_cons_zero, List.set_cons_succ, i64_w, i32_w]
                                                    rfl
                                                  refine pure_ (i := 15) (N := some 149) (v := ?_) (a' := ?_) #[true, true, true, true, true, true, true, true, true, true, true, true, true, true, true, true, false, false, false, false, false, false, false, false, false, false, false, false, false, false, false, false, false] rfl rfl (any_of HT_.out (by kernel_rfl)) (fun _ _ _ h => h) (Or.inl ⟨by rfl, ?_⟩) ?_ ?_
                                                  rotate_left
                                                  · intro w'
                                                    go_simp
                                                    with_reducible rfl
                                                  rotate_left
                                                  · simp only [Act.put, List.setIfInBounds_toArray, List.set_cons_zero, List.set_cons_succ, i64_w, i32_w]
                                                    rfl
                                                  refine pure_ (i := 16) (N := some 150) (v := ?_) (a' := ?_) #[true, true, true, true, true, true, true, true, true, true, true, true, true, true, true, true, true, false, false, false, false, false, false, false, false, false, false, false, false, false, false, false, false] rfl rfl (any_of HT_.out (by kernel_rfl)) (fun _ _ _ h => h) (Or.inl ⟨by rfl, ?_⟩) ?_ ?_
                                                  rotate_left
                                                  · intro w'
                                                    go_simp
                                                    with_reducible rfl
                                                  rotate_left
                                                  · simp only [Act.put, List.setIfInBounds_toArray, List.set_cons_zero, List.set_cons_succ, i64_w, i32_w]
                                                    rfl
                                                  refine one_ (i := 17) (N := some 151) #[true, true, true, true, true, true, true, true, true, true, true, true, true, true, true, true, true, true, false, false, false, false, false, false, false, false, false, false, false, false, false, false, false] rfl rfl (one_of HT_.out (by kernel_rfl)) (by decide) (fun K hK => ?_)
                                                  refine goes_ Try.func19 (by kernel_rfl) rfl #[.int .i64 (wrap64 ((wrap64 (rd t141 x131_3)) + (wrap64 ((Go.bits .and .i64 a2 65535) * (wrap64 (rd t148 x131_3))))))] (by rfl) rfl rfl (by (try simp only [List.map_toArray, List.map_cons, List.map_nil]); first | done | rfl | (simp only [tb_wrap8]; done) | (simp only [tb_wrap8]; rfl) | (simp only [List.length_drop, List.length_take]; rfl)) ?_
                                                  with_reducible refine (culletlaw15_brought.calls (wrap64 ((wrap64 (rd t141 x131_3)) + (wrap64 ((Go.bits .and .i64 a2 65535) * (wrap64 (rd t148 x131_3)))))) t167 _ A69.out).mono ?_
                                                  rintro e w' ⟨rfl, ⟨nd, rfl⟩⟩
                                                  refine ⟨_, rfl, ?_⟩
                                                  obtain ⟨Ao85, co85, eo85⟩ := Kd.R_slice HO_17.out
                                                  (first | subst eo85 | (injection eo85 with f1_ f2_ f3_; have f4_ := f1_.symm; have f5_ := f3_.symm; clear f1_ f2_ f3_; subst f4_; subst f5_))
                                                  refine hK.out _ _ ⟨hHeld.1, hHeld.2.1, hHeld.2.2.1, hHeld.2.2.2.1, hHeld.2.2.2.2⟩ (fun hHeld => ?_)
                                                  clear hK K
                                                  refine norm_ (a' := ?_) ?_ ?_
                                                  rotate_left
                                                  · show Act.put _ (some 151) _ = _
                                                    simp only [Act.put, List.setIfInBounds_toArray, List.set_cons_zero, List.set_cons_succ, i64_w, i32_w]
                                                    rfl
                                                  refine pure_ (i := 18) (N := some 152) (v := ?_) (a' := ?_) #[true, true, true, true, true, true, true, true, true, true, true, true, true, true, true, true, true, true, true, false, false, false, false, false, false, false, false, false, false, false, false, false, false] rfl rfl (any_of HT_.out (by kernel_rfl)) (fun _ _ _ h => h) (Or.inl ⟨by rfl, ?_⟩) ?_ ?_
                                                  rotate_left
                                                  · intro w'
                                                    go_simp
                                                    with_reducible rfl
                                                  rotate_left
                                                  · simp only [Act.put, List.setIfInBounds_toArray, List.set_cons_zero, List.set_cons_succ, i64_w, i32_w]
                                                    rfl
                                                  refine pure_ (i := 19) (N := some 153) (v := ?_) (a' := ?_) #[true, true, true, true, true, true, true, true, true, true, true, true, true, true, true, true, true, true, true, true, false, false, false, false, false, false, false, false, false, false, false, false, false] rfl rfl (any_of HT_.out (by kernel_rfl)) (fun _ _ _ h => h) (Or.inl ⟨by rfl, ?_⟩) ?_ ?_
                                                  rotate_left
                                                  · intro w'
                                                    go_simp
                                                    with_reducible rfl
                                                  rotate_left
                                                  · simp only [Act.put, List.setIfInBounds_toArray, List.set_cons_zero, List.set_cons_succ, i64_w, i32_w]
                                                    rfl
                                                  refine pure_ (i := 20) (N := some 154) (v := ?_) (a' := ?_) #[true, true, true, true, true, true, true, true, true, true, true, true, true, true, true, true, true, true, true, true, true, false, false, false, false, false, false, false, false, false, false, false, false] rfl rfl (any_of HT_.out (by kernel_rfl)) (fun _ _ _ h => h) (Or.inl ⟨by rfl, ?_⟩) ?_ ?_
                                                  rotate_left
                                                  · intro w'
                                                    go_simp
                                                    with_reducible rfl
                                                  rotate_left
                                                  · simp only [Act.put, List.setIfInBounds_toArray, List.set_cons_zero, List.set_cons_succ, i64_w, i32_w]
                                                    rfl
                                                  refine pure_ (i := 21) (N := some 155) (v := ?_) (a' := ?_) #[true, true, true, true, true, true, true, true, true, true, true, true, true, true, true, true, true, true, true, true, true, true, false, false, false, false, false, false, false, false, false, false, false] rfl rfl (any_of HT_.out (by kernel_rfl)) (fun _ _ _ h => h) (Or.inl ⟨by rfl, ?_⟩) ?_ ?_
                                                  rotate_left
                                                  · intro w'
                                                    go_simp
                                                    with_reducible rfl
                                                  rotate_left
                                                  · simp only [Act.put, List.setIfInBounds_toArray, List.set_cons_zero, List.set_cons_succ, i64_w, i32_w]
                                                    rfl
                                                  refine pure_ (i := 22) (N := some 156) (v := ?_) (a' := ?_) #[true, true, true, true, true, true, true, true, true, true, true, true, true, true, true, true, true, true, true, true, true, true, true, false, false, false, false, false, false, false, false, false, false] rfl rfl (any_of HT_.out (by kernel_rfl)) (fun _ _ _ h => h) (Or.inl ⟨by rfl, ?_⟩) ?_ ?_
                                                  rotate_left
                                                  · intro w'
                                                    go_simp
                                                    with_reducible rfl
                                                  rotate_left
                                                  · simp only [Act.put, List.setIfInBounds_toArray, List.set_cons_zero, List.set_cons_succ, i64_w, i32_w]
                                                    rfl
                                                  refine take_ (i := 23) (N := some 157) (v := ?_) (a' := ?_) #[true, true, true, true, true, true, true, true, true, true, true, true, true, true, true, true, true, true, true, true, true, true, true, true, false, false, false, false, false, false, false, false, false] rfl rfl (take_ofW HT_.out HW_.out (by kernel_rfl)) (fun _ _ _ h => h) (Or.inl ⟨by rfl, ?_⟩) hHeld ?_ ?_
                                                  rotate_left
                                                  · rintro w' ⟨s0, s1, s2, s3, s4⟩
                                                    go_simp
                                                    with_reducible rfl
                                                  rotate_left
                                                  · simp only [Act.put, List.setIfInBounds_toArray, List.set_cons_zero, List.set_cons_succ, i64_w, i32_w]
                                                    rfl
                                                  refine pure_ (i := 24) (N := some 158) (v := ?_) (a' := ?_) #[true, true, true, true, true, true, true, true, true, true, true, true, true, true, true, true, true, true, true, true, true, true, true, true, true, false, false, false, false, false, false, false, false] rfl rfl (any_of HT_.out (by kernel_rfl)) (fun _ _ _ h => h) (Or.inl ⟨by rfl, ?_⟩) ?_ ?_
                                                  rotate_left
                                                  · intro w'
                                                    go_simp
                                                    with_reducible rfl
                                                  rotate_left
                                                  · simp only [Act.put, List.setIfInBounds_toArray, List.set_cons_zero, List.set_cons_succ, i64_w, i32_w]
                                                    rfl
                                                  refine pure_ (i := 25) (N := some 159) (v := ?_) (a' := ?_) #[true, true, true, true, true, true, true, true, true, true, true, true, true, true, true, true, true, true, true, true, true, true, true, true, true, true, false, false, false, false, false, false, false] rfl rfl (any_of HT_.out (by kernel_rfl)) (fun _ _ _ h => h) (Or.inl ⟨by rfl, ?_⟩) ?_ ?_
                                                  rotate_left
                                                  · intro w'
                                                    go_simp
                                                    with_reducible rfl
                                                  rotate_left
                                                  · simp only [Act.put, List.setIfInBounds_toArray, List.set_cons_zero, List.set_cons_succ, i64_w, i32_w]
                                                    rfl
                                                  refine pure_ (i := 26) (N := some 160) (v := ?_) (a' := ?_) #[true, true, true, true, true, true, true, true, true, true, true, true, true, true, true, true, true, true, true, true, true, true, true, true, true, true, true, false, false, false, false, false, false] rfl rfl (any_of HT_.out (by kernel_rfl)) (fun _ _ _ h => h) (Or.inl ⟨by rfl, ?_⟩) ?_ ?_
                                                  rotate_left
                                                  · intro w'
                                                    go_simp
                                                    with_reducible rfl
                                                  rotate_left
                                                  · simp only [Act.put, List.setIfInBounds_toArray, List.set_cons_zero, List.set_cons_succ, i64_w, i32_w]
                                                    rfl
                                                  refine pure_ (i := 27) (N := some 161) (v := ?_) (a' := ?_) #[true, true, true, true, true, true, true, true, true, true, true, true, true, true, true, true, true, true, true, true, true, true, true, true, true, true, true, true, false, false, false, false, false] rfl rfl (any_of HT_.out (by kernel_rfl)) (fun _ _ _ h => h) (Or.inl ⟨by rfl, ?_⟩) ?_ ?_
                                                  rotate_left
                                                  · intro w'
                                                    go_simp
                                                    with_reducible rfl
                                                  rotate_left
                                                  · simp only [Act.put, List.setIfInBounds_toArray, List.set_cons_zero, List.set_cons_succ, i64_w, i32_w]
                                                    rfl
                                                  refine pure_ (i := 28) (N := some 162) (v := ?_) (a' := ?_) #[true, true, true, true, true, true, true, true, true, true, true, true, true, true, true, true, true, true, true, true, true, true, true, true, true, true, true, true, true, false, false, false, false] rfl rfl (any_of HT_.out (by kernel_rfl)) (fun _ _ _ h => h) (Or.inl ⟨by rfl, ?_⟩) ?_ ?_
                                                  rotate_left
                                                  · intro w'
                                                    go_simp
                                                    with_reducible rfl
                                                  rotate_left
                                                  · simp only [Act.put, List.setIfInBounds_toArray, List.set_cons_zero, List.set_cons_succ, i64_w, i32_w]
                                                    rfl
                                                  refine take_ (i := 29) (N := some 163) (v := ?_) (a' := ?_) #[true, true, true, true, true, true, true, true, true, true, true, true, true, true, true, true, true, true, true, true, true, true, true, true, true, true, true, true, true, true, false, false, false] rfl rfl (take_ofW HT_.out HW_.out (by kernel_rfl)) (fun _ _ _ h => h) (Or.inl ⟨by rfl, ?_⟩) hHeld ?_ ?_
                                                  rotate_left
                                                  · rintro w' ⟨s0, s1, s2, s3, s4⟩
                                                    go_simp
                                                    with_reducible rfl
                                                  rotate_left
                                                  · simp only [Act.put, List.setIfInBounds_toArray, List.set_cons_zero, List.set_cons_succ, i64_w, i32_w]
                                                    rfl
                                                  refine pure_ (i := 30) (N := some 164) (v := ?_) (a' := ?_) #[true, true, true, true, true, true, true, true, true, true, true, true, true, true, true, true, true, true, true, true, true, true, true, true, true, true, true, true, true, true, true, false, false] rfl rfl (any_of HT_.out (by kernel_rfl)) (fun _ _ _ h => h) (Or.inl ⟨by rfl, ?_⟩) ?_ ?_
                                                  rotate_left
                                                  · intro w'
                                                    go_simp
                                                    with_reducible rfl
                                                  rotate_left
                                                  · simp only [Act.put, List.setIfInBounds_toArray, List.set_cons_zero, List.set_cons_succ, i64_w, i32_w]
                                                    rfl
                                                  refine pure_ (i := 31) (N := some 165) (v := ?_) (a' := ?_) #[true, true, true, true, true, true, true, true, true, true, true, true, true, true, true, true, true, true, true, true, true, true, true, true, true, true, true, true, true, true, true, true, false] rfl rfl (any_of HT_.out (by kernel_rfl)) (fun _ _ _ h => h) (Or.inl ⟨by rfl, ?_⟩) ?_ ?_
                                                  rotate_left
                                                  · intro w'
                                                    go_simp
                                                    with_reducible rfl
                                                  rotate_left
                                                  · simp only [Act.put, List.setIfInBounds_toArray, List.set_cons_zero, List.set_cons_succ, i64_w, i32_w]
                                                    rfl
                                                  refine pure_ (i := 32) (N := some 166) (v := ?_) (a' := ?_) #[true, true, true, true, true, true, true, true, true, true, true, true, true, true, true, true, true, true, true, true, true, true, true, true, true, true, true, true, true, true, true, true, true] rfl rfl (any_of HT_.out (by kernel_rfl)) (fun _ _ _ h => h) (Or.inl ⟨by rfl, ?_⟩) ?_ ?_
                                                  rotate_left
                                                  · intro w'
                                                    go_simp
                                                    with_reducible rfl
                                                  rotate_left
                                                  · simp only [Act.put, List.setIfInBounds_toArray, List.set_cons_zero, List.set_cons_succ, i64_w, i32_w]
                                                    rfl
                                                  refine done_ (done_of HT_.out (by kernel_rfl)) ?_
                                                  try go_wp2
                                                  go_ret
                                                  exact ⟨by first | rfl | (simp [errW_none, errW_some] <;> rfl) | (simp only [← hji27]; first | rfl | (simp [errW_none, errW_some] <;> rfl)) | (simp [*, errW_none, errW_some] <;> rfl), by repeat (first | (with_reducible first | exact HB.out | apply below_alloc | apply pw_below_drewN | apply below_drew1) | exact HB.out)⟩
                                            · rw [if_neg c71] at H
                                              exact absurd H (by simp)
                                          · rw [if_neg c70] at H
                                            have c70b0 : ((rd t152 x131_3) == t167) = false := beq_eq_false_iff_ne.mpr c70
                                            (try simp only [hl7_1] at c70b0)
                                            have c70b1 : ((rd t152 x131_3) != t167) = true := bne_iff_ne.mpr c70
                                            (try simp only [hl7_1] at c70b1)
                                            obtain rfl := Option.some.inj H
                                            try go_wp2
                                            have n0_ := Aside0.mk (Kd.R_drew HO_10.out)
                                            have n1_ := Aside0.mk (Kd.R_drew HO_12.out)
                                            have n2_ := Aside0.mk (Kd.R_drew HO_14.out)
                                            have n3_ := Aside0.mk (Kd.R_drew HO_17.out)
                                            have n4_ := Aside0.mk (below_drew1 HB.out)
                                            clear HO_10
                                            clear HO_12
                                            clear HO_14
                                            clear HO_17
                                            clear HB
                                            have HO_10 := n0_
                                            have HO_12 := n1_
                                            have HO_14 := n2_
                                            have HO_17 := n3_
                                            have HB := n4_
                                            clear n0_ n1_ n2_ n3_ n4_
                                            have p164 : 0 ≤ (x131_3 : Int) := of_decide_eq_true (by first | (with_reducible assumption) | assumption)
                                            have q164 : x131_3 < (t152.length : Int) := of_decide_eq_true (by first | (with_reducible assumption) | assumption)
                                            obtain ⟨ad164, e164, hx164_0⟩ := Kd.at_int (Kd.R_reads' HO_14.out).2.2 x131_3 p164 q164
                                            cases e164
                                            replace p164 := eq_true p164
                                            replace q164 := eq_true q164
                                            obtain ⟨Ao87, co87, eo87⟩ := Kd.R_slice HO_10.out
                                            (first | subst eo87 | (injection eo87 with f1_ f2_ f3_; have f4_ := f1_.symm; have f5_ := f3_.symm; clear f1_ f2_ f3_; subst f4_; subst f5_))
                                            have p165 : 0 ≤ (x131_3 : Int) := of_decide_eq_true (by first | (with_reducible assumption) | assumption)
                                            have q165 : x131_3 < (t141.length : Int) := of_decide_eq_true (by first | (with_reducible assumption) | assumption)
                                            obtain ⟨ad165, e165, hx165_0⟩ := Kd.at_int (Kd.R_reads' HO_10.out).2.2 x131_3 p165 q165
                                            cases e165
                                            replace p165 := eq_true p165
                                            replace q165 := eq_true q165
                                            obtain ⟨Ao88, co88, eo88⟩ := Kd.R_slice HO_12.out
                                            (first | subst eo88 | (injection eo88 with f1_ f2_ f3_; have f4_ := f1_.symm; have f5_ := f3_.symm; clear f1_ f2_ f3_; subst f4_; subst f5_))
                                            have p166 : 0 ≤ (x131_3 : Int) := of_decide_eq_true (by first | (with_reducible assumption) | assumption)
                                            have q166 : x131_3 < (t148.length : Int) := of_decide_eq_true (by first | (with_reducible assumption) | assumption)
                                            obtain ⟨ad166, e166, hx166_0⟩ := Kd.at_int (Kd.R_reads' HO_12.out).2.2 x131_3 p166 q166
                                            cases e166
                                            replace p166 := eq_true p166
                                            replace q166 := eq_true q166
                                            refine start_ (n := 33) (S := fun w' => w'.cell? (ad164.add (x131_3).toNat) = some (.int .u16 (rd t152 x131_3)) ∧ w'.cell? (ad165.add (x131_3).toNat) = some (.int .u16 (rd t141 x131_3)) ∧ w'.cell? (ad166.add (x131_3).toNat) = some (.int .u16 (rd t148 x131_3))) (ds := []) #[false, false, false, false, false, false, false, false, false, false, false, false, false, false, false, false, false, false, false, false, false, false, false, false, false, false, false, false, false, false, false, false, false] (by kernel_rfl) rfl rfl ⟨hx164_0, hx165_0, hx166_0⟩ (fun hHeld => ?_); refine with_tabW culletlaw15_summed.tab21 culletlaw15_summed.bits21 (fun HT_ HW_ => ?_)
                                            generalize wr.drew = w86 at HO_10 HO_12 HO_14 HO_17 HB hx164_0 hx165_0 hx166_0 hHeld ⊢
                                            refine pure_ (i := 0) (N := some 134) (v := ?_) (a' := ?_) #[true, false, false, false, false, false, false, false, false, false, false, false, false, false, false, false, false, false, false, false, false, false, false, false, false, false, false, false, false, false, false, false, false] rfl rfl (any_of HT_.out (by kernel_rfl)) (fun _ _ _ h => h) (Or.inl ⟨by rfl, ?_⟩) ?_ ?_
                                            rotate_left
                                            · intro w'
                                              go_simp
                                              with_reducible rfl
                                            rotate_left
                                            · simp only [Act.put, List.setIfInBounds_toArray, List.set_cons_zero, List.set_cons_succ, i64_w, i32_w]
                                              rfl
                                            refine pure_ (i := 1) (N := some 135) (v := ?_) (a' := ?_) #[true, true, false, false, false, false, false, false, false, false, false, false, false, false, false, false, false, false, false, false, false, false, false, false, false, false, false, false, false, false, false, false, false] rfl rfl (any_of HT_.out (by kernel_rfl)) (fun _ _ _ h => h) (Or.inl ⟨by rfl, ?_⟩) ?_ ?_
                                            rotate_left
                                            · intro w'
                                              go_simp
                                              with_reducible rfl
                                            rotate_left
                                            · simp only [Act.put, List.setIfInBounds_toArray, List.set_cons_zero, List.set_cons_succ, i64_w, i32_w]
                                              rfl
                                            refine pure_ (i := 2) (N := some 136) (v := ?_) (a' := ?_) #[true, true, true, false, false, false, false, false, false, false, false, false, false, false, false, false, false, false, false, false, false, false, false, false, false, false, false, false, false, false, false, false, false] rfl rfl (any_of HT_.out (by kernel_rfl)) (fun _ _ _ h => h) (Or.inl ⟨by rfl, ?_⟩) ?_ ?_
                                            rotate_left
                                            · intro w'
                                              go_simp
                                              with_reducible rfl
                                            rotate_left
                                            · simp only [Act.put, List.setIfInBounds_toArray, List.set_cons_zero, List.set_cons_succ, i64_w, i32_w]
                                              rfl
                                            refine pure_ (i := 4) (N := some 138) (v := ?_) (a' := ?_) #[true, true, true, false, true, false, false, false, false, false, false, false, false, false, false, false, false, false, false, false, false, false, false, false, false, false, false, false, false, false, false, false, false] rfl rfl (any_of HT_.out (by kernel_rfl)) (fun _ _ _ h => h) (Or.inl ⟨by rfl, ?_⟩) ?_ ?_
                                            rotate_left
                                            · intro w'
                                              go_simp
                                              with_reducible rfl
                                            rotate_left
                                            · simp only [Act.put, List.setIfInBounds_toArray, List.set_cons_zero, List.set_cons_succ, i64_w, i32_w]
                                              rfl
                                            refine pure_ (i := 5) (N := some 139) (v := ?_) (a' := ?_) #[true, true, true, false, true, true, false, false, false, false, false, false, false, false, false, false, false, false, false, false, false, false, false, false, false, false, false, false, false, false, false, false, false] rfl rfl (any_of HT_.out (by kernel_rfl)) (fun _ _ _ h => h) (Or.inl ⟨by rfl, ?_⟩) ?_ ?_
                                            rotate_left
                                            · intro w'
                                              go_simp
                                              with_reducible rfl
                                            rotate_left
                                            · simp only [Act.put, List.setIfInBounds_toArray, List.set_cons_zero, List.set_cons_succ, i64_w, i32_w]
                                              rfl
                                            refine pure_ (i := 6) (N := some 140) (v := ?_) (a' := ?_) #[true, true, true, false, true, true, true, false, false, false, false, false, false, false, false, false, false, false, false, false, false, false, false, false, false, false, false, false, false, false, false, false, false] rfl rfl (any_of HT_.out (by kernel_rfl)) (fun _ _ _ h => h) (Or.inl ⟨by rfl, ?_⟩) ?_ ?_
                                            rotate_left
                                            · intro w'
                                              go_simp
                                              with_reducible rfl
                                            rotate_left
                                            · simp only [Act.put, List.setIfInBounds_toArray, List.set_cons_zero, List.set_cons_succ, i64_w, i32_w]
                                              rfl
                                            refine pure_ (i := 9) (N := some 143) (v := ?_) (a' := ?_) #[true, true, true, false, true, true, true, false, false, true, false, false, false, false, false, false, false, false, false, false, false, false, false, false, false, false, false, false, false, false, false, false, false] rfl rfl (any_of HT_.out (by kernel_rfl)) (fun _ _ _ h => h) (Or.inl ⟨by rfl, ?_⟩) ?_ ?_
                                            rotate_left
                                            · intro w'
                                              go_simp
                                              with_reducible rfl
                                            rotate_left
                                            · simp only [Act.put, List.setIfInBounds_toArray, List.set_cons_zero, List.set_cons_succ, i64_w, i32_w]
                                              rfl
                                            refine pure_ (i := 10) (N := some 144) (v := ?_) (a' := ?_) #[true, true, true, false, true, true, true, false, false, true, true, false, false, false, false, false, false, false, false, false, false, false, false, false, false, false, false, false, false, false, false, false, false] rfl rfl (any_of HT_.out (by kernel_rfl)) (fun _ _ _ h => h) (Or.inl ⟨by rfl, ?_⟩) ?_ ?_
                                            rotate_left
                                            · intro w'
                                              go_simp
                                              with_reducible rfl
                                            rotate_left
                                            · simp only [Act.put, List.setIfInBounds_toArray, List.set_cons_zero, List.set_cons_succ, i64_w, i32_w]
                                              rfl
                                            refine pure_ (i := 11) (N := some 145) (v := ?_) (a' := ?_) #[true, true, true, false, true, true, true, false, false, true, true, true, false, false, false, false, false, false, false, false, false, false, false, false, false, false, false, false, false, false, false, false, false] rfl rfl (any_of HT_.out (by kernel_rfl)) (fun _ _ _ h => h) (Or.inl ⟨by rfl, ?_⟩) ?_ ?_
                                            rotate_left
                                            · intro w'
                                              go_simp
                                              with_reducible rfl
                                            rotate_left
                                            · simp only [Act.put, List.setIfInBounds_toArray, List.set_cons_zero, List.set_cons_succ, i64_w, i32_w]
                                              rfl
                                            refine pure_ (i := 12) (N := some 146) (v := ?_) (a' := ?_) #[true, true, true, false, true, true, true, false, false, true, true, true, true, false, false, false, false, false, false, false, false, false, false, false, false, false, false, false, false, false, false, false, false] rfl rfl (any_of HT_.out (by kernel_rfl)) (fun _ _ _ h => h) (Or.inl ⟨by rfl, ?_⟩) ?_ ?_
                                            rotate_left
                                            · intro w'
                                              go_simp
                                              with_reducible rfl
                                            rotate_left
                                            · simp only [Act.put, List.setIfInBounds_toArray, List.set_cons_zero, List.set_cons_succ, i64_w, i32_w]
                                              rfl
                                            refine take_ (i := 3) (N := some 137) (v := ?_) (a' := ?_) #[true, true, true, true, true, true, true, false, false, true, true, true, true, false, false, false, false, false, false, false, false, false, false, false, false, false, false, false, false, false, false, false, false] rfl rfl (take_ofW HT_.out HW_.out (by kernel_rfl)) (fun _ _ _ h => h) (Or.inl ⟨by rfl, ?_⟩) hHeld ?_ ?_
                                            rotate_left
                                            · rintro w' ⟨s0, s1, s2⟩
                                              go_simp
                                              with_reducible rfl
                                            rotate_left
                                            · simp only [Act.put, List.setIfInBounds_toArray, List.set_cons_zero, List.set_cons_succ, i64_w, i32_w]
                                              rfl
                                            refine take_ (i := 7) (N := some 141) (v := ?_) (a' := ?_) #[true, true, true, true, true, true, true, true, false, true, true, true, true, false, false, false, false, false, false, false, false, false, false, false, false, false, false, false, false, false, false, false, false] rfl rfl (take_ofW HT_.out HW_.out (by kernel_rfl)) (fun _ _ _ h => h) (Or.inl ⟨by rfl, ?_⟩) hHeld ?_ ?_
                                            rotate_left
                                            · rintro w' ⟨s0, s1, s2⟩
                                              go_simp
                                              with_reducible rfl
                                            rotate_left
                                            · simp only [Act.put, List.setIfInBounds_toArray, List.set_cons_zero, List.set_cons_succ, i64_w, i32_w]
                                              rfl
                                            refine pure_ (i := 8) (N := some 142) (v := ?_) (a' := ?_) #[true, true, true, true, true, true, true, true, true, true, true, true, true, false, false, false, false, false, false, false, false, false, false, false, false, false, false, false, false, false, false, false, false] rfl rfl (any_of HT_.out (by kernel_rfl)) (fun _ _ _ h => h) (Or.inl ⟨by rfl, ?_⟩) ?_ ?_
                                            rotate_left
                                            · intro w'
                                              go_simp
                                              with_reducible rfl
                                            rotate_left
                                            · simp only [Act.put, List.setIfInBounds_toArray, List.set_cons_zero, List.set_cons_succ, i64_w, i32_w]
                                              rfl
                                            refine take_ (i := 13) (N := some 147) (v := ?_) (a' := ?_) #[true, true, true, true, true, true, true, true, true, true, true, true, true, true, false, false, false, false, false, false, false, false, false, false, false, false, false, false, false, false, false, false, false] rfl rfl (take_ofW HT_.out HW_.out (by kernel_rfl)) (fun _ _ _ h => h) (Or.inl ⟨by rfl, ?_⟩) hHeld ?_ ?_
                                            rotate_left
                                            · rintro w' ⟨s0, s1, s2⟩
                                              go_simp
                                              with_reducible rfl
                                            rotate_left
                                            · simp only [Act.put, List.setIfInBounds_toArray, List.set_cons_zero, List.set_cons_succ, i64_w, i32_w]
                                              rfl
                                            refine pure_ (i := 14) (N := some 148) (v := ?_) (a' := ?_) #[true, true, true, true, true, true, true, true, true, true, true, true, true, true, true, false, false, false, false, false, false, false, false, false, false, false, false, false, false, false, false, false, false] rfl rfl (any_of HT_.out (by kernel_rfl)) (fun _ _ _ h => h) (Or.inl ⟨by rfl, ?_⟩) ?_ ?_
                                            rotate_left
                                            · intro w'
                                              go_simp
                                              with_reducible rfl
                                            rotate_left
                                            · simp only [Act.put, List.setIfInBounds_toArray, List.set_cons_zero, List.set_cons_succ, i64_w, i32_w]
                                              rfl
                                            refine pure_ (i := 15) (N := some 149) (v := ?_) (a' := ?_) #[true, true, true, true, true, true, true, true, true, true, true, true, true, true, true, true, false, false, false, false, false, false, false, false, false, false, false, false, false, false, false, false, false] rfl rfl (any_of HT_.out (by kernel_rfl)) (fun _ _ _ h => h) (Or.inl ⟨by rfl, ?_⟩) ?_ ?_
                                            rotate_left
                                            · intro w'
                                              go_simp
                                              with_reducible rfl
                                            rotate_left
                                            · simp only [Act.put, List.setIfInBounds_toArray, List.set_cons_zero, List.set_cons_succ, i64_w, i32_w]
                                              rfl
                                            refine pure_ (i := 16) (N := some 150) (v := ?_) (a' := ?_) #[true, true, true, true, true, true, true, true, true, true, true, true, true, true, true, true, true, false, false, false, false, false, false, false, false, false, false, false, false, false, false, false, false] rfl rfl (any_of HT_.out (by kernel_rfl)) (fun _ _ _ h => h) (Or.inl ⟨by rfl, ?_⟩) ?_ ?_
                                            rotate_left
                                            · intro w'
                                              go_simp
                                              with_reducible rfl
                                            rotate_left
                                            · simp only [Act.put, List.setIfInBounds_toArray, List.set_cons_zero, List.set_cons_succ, i64_w, i32_w]
                                              rfl
                                            refine one_ (i := 17) (N := some 151) #[true, true, true, true, true, true, true, true, true, true, true, true, true, true, true, true, true, true, false, false, false, false, false, false, false, false, false, false, false, false, false, false, false] rfl rfl (one_of HT_.out (by kernel_rfl)) (by decide) (fun K hK => ?_)
                                            refine goes_ Try.func19 (by kernel_rfl) rfl #[.int .i64 (wrap64 ((wrap64 (rd t141 x131_3)) + (wrap64 ((Go.bits .and .i64 a2 65535) * (wrap64 (rd t148 x131_3))))))] (by rfl) rfl rfl (by (try simp only [List.map_toArray, List.map_cons, List.map_nil]); first | done | rfl | (simp only [tb_wrap8]; done) | (simp only [tb_wrap8]; rfl) | (simp only [List.length_drop, List.length_take]; rfl)) ?_
                                            with_reducible refine (culletlaw15_brought.calls (wrap64 ((wrap64 (rd t141 x131_3)) + (wrap64 ((Go.bits .and .i64 a2 65535) * (wrap64 (rd t148 x131_3)))))) t167 _ A69.out).mono ?_
                                            rintro e w' ⟨rfl, ⟨nd, rfl⟩⟩
                                            refine ⟨_, rfl, ?_⟩
                                            refine hK.out _ _ ⟨hHeld.1, hHeld.2.1, hHeld.2.2⟩ (fun hHeld => ?_)
                                            clear hK K
                                            refine norm_ (a' := ?_) ?_ ?_
                                            rotate_left
                                            · show Act.put _ (some 151) _ = _
                                              simp only [Act.put, List.setIfInBounds_toArray, List.set_cons_zero, List.set_cons_succ, i64_w, i32_w]
                                              rfl
                                            refine pure_ (i := 18) (N := some 152) (v := ?_) (a' := ?_) #[true, true, true, true, true, true, true, true, true, true, true, true, true, true, true, true, true, true, true, false, false, false, false, false, false, false, false, false, false, false, false, false, false] rfl rfl (any_of HT_.out (by kernel_rfl)) (fun _ _ _ h => h) (Or.inl ⟨by rfl, ?_⟩) ?_ ?_
                                            rotate_left
                                            · intro w'
                                              go_simp
                                              with_reducible rfl
                                            rotate_left
                                            · simp only [Act.put, List.setIfInBounds_toArray, List.set_cons_zero, List.set_cons_succ, i64_w, i32_w]
                                              rfl
                                            refine pure_ (i := 19) (N := some 153) (v := ?_) (a' := ?_) #[true, true, true, true, true, true, true, true, true, true, true, true, true, true, true, true, true, true, true, true, false, false, false, false, false, false, false, false, false, false, false, false, false] rfl rfl (any_of HT_.out (by kernel_rfl)) (fun _ _ _ h => h) (Or.inl ⟨by rfl, ?_⟩) ?_ ?_
                                            rotate_left
                                            · intro w'
                                              go_simp
                                              with_reducible rfl
                                            rotate_left
                                            · simp only [Act.put, List.setIfInBounds_toArray, List.set_cons_zero, List.set_cons_succ, i64_w, i32_w]
                                              rfl
                                            refine pure_ (i := 20) (N := some 154) (v := undef) (a' := ?_) #[true, true, true, true, true, true, true, true, true, true, true, true, true, true, true, true, true, true, true, true, true, false, false, false, false, false, false, false, false, false, false, false, false] rfl rfl (any_of HT_.out (by kernel_rfl)) (fun _ _ _ h => h) (Or.inr ⟨by rfl, rfl⟩) ?_ ?_
                                            rotate_left
                                            · simp only [Act.put, List.setIfInBounds_toArray, List.set_cons_zero, List.set_cons_succ, i64_w, i32_w]
                                              rfl
                                            refine pure_ (i := 21) (N := some 155) (v := undef) (a' := ?_) #[true, true, true, true, true, true, true, true, true, true, true, true, true, true, true, true, true, true, true, true, true, true, false, false, false, false, false, false, false, false, false, false, false] rfl rfl (any_of HT_.out (by kernel_rfl)) (fun _ _ _ h => h) (Or.inr ⟨by rfl, rfl⟩) ?_ ?_
                                            rotate_left
                                            · simp only [Act.put, List.setIfInBounds_toArray, List.set_cons_zero, List.set_cons_succ, i64_w, i32_w]
                                              rfl
                                            refine pure_ (i := 22) (N := some 156) (v := undef) (a' := ?_) #[true, true, true, true, true, true, true, true, true, true, true, true, true, true, true, true, true, true, true, true, true, true, true, false, false, false, false, false, false, false, false, false, false] rfl rfl (any_of HT_.out (by kernel_rfl)) (fun _ _ _ h => h) (Or.inr ⟨by rfl, rfl⟩) ?_ ?_
                                            rotate_left
                                            · simp only [Act.put, List.setIfInBounds_toArray, List.set_cons_zero, List.set_cons_succ, i64_w, i32_w]
                                              rfl
                                            refine pure_ (i := 23) (N := some 157) (v := undef) (a' := ?_) #[true, true, true, true, true, true, true, true, true, true, true, true, true, true, true, true, true, true, true, true, true, true, true, true, false, false, false, false, false, false, false, false, false] rfl rfl (any_of HT_.out (by kernel_rfl)) (fun _ _ _ h => h) (Or.inr ⟨by rfl, rfl⟩) ?_ ?_
                                            rotate_left
                                            · simp only [Act.put, List.setIfInBounds_toArray, List.set_cons_zero, List.set_cons_succ, i64_w, i32_w]
                                              rfl
                                            refine pure_ (i := 24) (N := some 158) (v := undef) (a' := ?_) #[true, true, true, true, true, true, true, true, true, true, true, true, true, true, true, true, true, true, true, true, true, true, true, true, true, false, false, false, false, false, false, false, false] rfl rfl (any_of HT_.out (by kernel_rfl)) (fun _ _ _ h => h) (Or.inr ⟨by rfl, rfl⟩) ?_ ?_
                                            rotate_left
                                            · simp only [Act.put, List.setIfInBounds_toArray, List.set_cons_zero, List.set_cons_succ, i64_w, i32_w]
                                              rfl
                                            refine pure_ (i := 25) (N := some 159) (v := undef) (a' := ?_) #[true, true, true, true, true, true, true, true, true, true, true, true, true, true, true, true, true, true, true, true, true, true, true, true, true, true, false, false, false, false, false, false, false] rfl rfl (any_of HT_.out (by kernel_rfl)) (fun _ _ _ h => h) (Or.inr ⟨by rfl, rfl⟩) ?_ ?_
                                            rotate_left
                                            · simp only [Act.put, List.setIfInBounds_toArray, List.set_cons_zero, List.set_cons_succ, i64_w, i32_w]
                                              rfl
                                            refine pure_ (i := 26) (N := some 160) (v := undef) (a' := ?_) #[true, true, true, true, true, true, true, true, true, true, true, true, true, true, true, true, true, true, true, true, true, true, true, true, true, true, true, false, false, false, false, false, false] rfl rfl (any_of HT_.out (by kernel_rfl)) (fun _ _ _ h => h) (Or.inr ⟨by rfl, rfl⟩) ?_ ?_
                                            rotate_left
                                            · simp only [Act.put, List.setIfInBounds_toArray, List.set_cons_zero, List.set_cons_succ, i64_w, i32_w]
                                              rfl
                                            refine pure_ (i := 27) (N := some 161) (v := undef) (a' := ?_) #[true, true, true, true, true, true, true, true, true, true, true, true, true, true, true, true, true, true, true, true, true, true, true, true, true, true, true, true, false, false, false, false, false] rfl rfl (any_of HT_.out (by kernel_rfl)) (fun _ _ _ h => h) (Or.inr ⟨by rfl, rfl⟩) ?_ ?_
                                            rotate_left
                                            · simp only [Act.put, List.setIfInBounds_toArray, List.set_cons_zero, List.set_cons_succ, i64_w, i32_w]
                                              rfl
                                            refine pure_ (i := 28) (N := some 162) (v := undef) (a' := ?_) #[true, true, true, true, true, true, true, true, true, true, true, true, true, true, true, true, true, true, true, true, true, true, true, true, true, true, true, true, true, false, false, false, false] rfl rfl (any_of HT_.out (by kernel_rfl)) (fun _ _ _ h => h) (Or.inr ⟨by rfl, rfl⟩) ?_ ?_
                                            rotate_left
                                            · simp only [Act.put, List.setIfInBounds_toArray, List.set_cons_zero, List.set_cons_succ, i64_w, i32_w]
                                              rfl
                                            refine pure_ (i := 29) (N := some 163) (v := undef) (a' := ?_) #[true, true, true, true, true, true, true, true, true, true, true, true, true, true, true, true, true, true, true, true, true, true, true, true, true, true, true, true, true, true, false, false, false] rfl rfl (any_of HT_.out (by kernel_rfl)) (fun _ _ _ h => h) (Or.inr ⟨by rfl, rfl⟩) ?_ ?_
                                            rotate_left
                                            · simp only [Act.put, List.setIfInBounds_toArray, List.set_cons_zero, List.set_cons_succ, i64_w, i32_w]
                                              rfl
                                            refine pure_ (i := 30) (N := some 164) (v := undef) (a' := ?_) #[true, true, true, true, true, true, true, true, true, true, true, true, true, true, true, true, true, true, true, true, true, true, true, true, true, true, true, true, true, true, true, false, false] rfl rfl (any_of HT_.out (by kernel_rfl)) (fun _ _ _ h => h) (Or.inr ⟨by rfl, rfl⟩) ?_ ?_
                                            rotate_left
                                            · simp only [Act.put, List.setIfInBounds_toArray, List.set_cons_zero, List.set_cons_succ, i64_w, i32_w]
                                              rfl
                                            refine pure_ (i := 31) (N := some 165) (v := undef) (a' := ?_) #[true, true, true, true, true, true, true, true, true, true, true, true, true, true, true, true, true, true, true, true, true, true, true, true, true, true, true, true, true, true, true, true, false] rfl rfl (any_of HT_.out (by kernel_rfl)) (fun _ _ _ h => h) (Or.inr ⟨by rfl, rfl⟩) ?_ ?_
                                            rotate_left
                                            · simp only [Act.put, List.setIfInBounds_toArray, List.set_cons_zero, List.set_cons_succ, i64_w, i32_w]
                                              rfl
                                            refine pure_ (i := 32) (N := some 166) (v := ?_) (a' := ?_) #[true, true, true, true, true, true, true, true, true, true, true, true, true, true, true, true, true, true, true, true, true, true, true, true, true, true, true, true, true, true, true, true, true] rfl rfl (any_of HT_.out (by kernel_rfl)) (fun _ _ _ h => h) (Or.inl ⟨by rfl, ?_⟩) ?_ ?_
                                            rotate_left
                                            · intro w'
                                              go_simp
                                              with_reducible rfl
                                            rotate_left
                                            · simp only [Act.put, List.setIfInBounds_toArray, List.set_cons_zero, List.set_cons_succ, i64_w, i32_w]
                                              rfl
                                            refine done_ (done_of HT_.out (by kernel_rfl)) ?_
                                            try go_wp2
                                            go_ret
                                            exact ⟨by first | rfl | (simp [errW_none, errW_some] <;> rfl) | (simp only [← hji27]; first | rfl | (simp [errW_none, errW_some] <;> rfl)) | (simp [*, errW_none, errW_some] <;> rfl), by repeat (first | (with_reducible first | exact HB.out | apply below_alloc | apply pw_below_drewN | apply below_drew1) | exact HB.out)⟩
                                        · rw [if_neg c68] at H
                                          exact absurd H (by simp)
                                      · rw [if_neg c67] at H
                                        exact absurd H (by simp)
                                    · rw [if_neg c66] at H
                                      exact absurd H (by simp)
                                  · rw [if_neg c65] at H
                                    exact absurd H (by simp)
                                · rw [if_neg c64] at H
                                  have c64b0 : decide (x131_3 < (t152.length : Int)) = false := decide_eq_false c64
                                  (try simp only [hl7_1] at c64b0)
                                  clear c64
                                  by_cases c89 : 0 < (t152.length : Int)
                                  · rw [if_pos c89] at H
                                    have c89b0 : decide (0 < (t152.length : Int)) = true := decide_eq_true c89
                                    (try simp only [hl7_1] at c89b0)
                                    have c89b1 : decide (0 < t152.length) = true := decide_eq_true (by omega)
                                    (try simp only [hl7_1] at c89b1)
                                    clear c89
                                    by_cases c90 : (wrap64 (rd t152 0)) = x8_1
                                    · rw [if_pos c90] at H
                                      have c90b0 : ((wrap64 (rd t152 0)) == x8_1) = true := beq_iff_eq.mpr c90
                                      (try simp only [hl7_1] at c90b0)
                                      have c90b1 : ((wrap64 (rd t152 0)) != x8_1) = false := bne_eq_false_iff_eq.mpr c90
                                      (try simp only [hl7_1] at c90b1)
                                      clear c90
                                      by_cases c91 : 0 < (t160.length : Int)
                                      · rw [if_pos c91] at H
                                        have c91b0 : decide (0 < (t160.length : Int)) = true := decide_eq_true c91
                                        (try simp only [hl7_1] at c91b0)
                                        have c91b1 : decide (0 < t160.length) = true := decide_eq_true (by omega)
                                        (try simp only [hl7_1] at c91b1)
                                        clear c91
                                        obtain rfl := Option.some.inj H
                                        have p170 : 0 ≤ (0 : Int) := (by omega)
                                        have q170 : 0 < (t152.length : Int) := of_decide_eq_true (by first | (with_reducible assumption) | assumption)
                                        obtain ⟨ad170, e170, hx170_0⟩ := Kd.at_int (Kd.R_reads' HO_14.out).2.2 0 p170 q170
                                        cases e170
                                        have qi170 : (0 < t152.length) = True := eq_true (by omega)
                                        (try rw [show ((0 : Int)).toNat = 0 from rfl] at hx170_0)
                                        (try rw [Addr.add_zero'] at hx170_0)
                                        replace p170 := eq_true p170
                                        replace q170 := eq_true q170
                                        obtain ⟨Ao92, co92, eo92⟩ := Kd.R_slice HO_17.out
                                        subst eo92
                                        have p171 : 0 ≤ (0 : Int) := (by omega)
                                        have q171 : 0 < (t160.length : Int) := of_decide_eq_true (by first | (with_reducible assumption) | assumption)
                                        obtain ⟨ad171, e171, hx171_0⟩ := Kd.at_int (Kd.R_reads' HO_17.out).2.2 0 p171 q171
                                        cases e171
                                        have qi171 : (0 < t160.length) = True := eq_true (by omega)
                                        (try rw [show ((0 : Int)).toNat = 0 from rfl] at hx171_0)
                                        (try rw [Addr.add_zero'] at hx171_0)
                                        replace p171 := eq_true p171
                                        replace q171 := eq_true q171
                                        go_wp2
                                        go_ret
                                        exact ⟨by first | rfl | (simp [errW_none, errW_some] <;> rfl) | (simp only [← hji27]; first | rfl | (simp [errW_none, errW_some] <;> rfl)) | (simp [*, errW_none, errW_some] <;> rfl), by repeat (first | (with_reducible first | exact HB.out | apply below_alloc | apply pw_below_drewN | apply below_drew1) | exact HB.out)⟩
                                      · rw [if_neg c91] at H
                                        exact absurd H (by simp)
                                    · rw [if_neg c90] at H
                                      have c90b0 : ((wrap64 (rd t152 0)) == x8_1) = false := beq_eq_false_iff_ne.mpr c90
                                      (try simp only [hl7_1] at c90b0)
                                      have c90b1 : ((wrap64 (rd t152 0)) != x8_1) = true := bne_iff_ne.mpr c90
                                      (try simp only [hl7_1] at c90b1)
                                      obtain rfl := Option.some.inj H
                                      have p170 : 0 ≤ (0 : Int) := (by omega)
                                      have q170 : 0 < (t152.length : Int) := of_decide_eq_true (by first | (with_reducible assumption) | assumption)
                                      obtain ⟨ad170, e170, hx170_0⟩ := Kd.at_int (Kd.R_reads' HO_14.out).2.2 0 p170 q170
                                      cases e170
                                      have qi170 : (0 < t152.length) = True := eq_true (by omega)
                                      (try rw [show ((0 : Int)).toNat = 0 from rfl] at hx170_0)
                                      (try rw [Addr.add_zero'] at hx170_0)
                                      replace p170 := eq_true p170
                                      replace q170 := eq_true q170
                                      go_wp2
                                      go_ret
                                      exact ⟨by first | rfl | (simp [errW_none, errW_some] <;> rfl) | (simp only [← hji27]; first | rfl | (simp [errW_none, errW_some] <;> rfl)) | (simp [*, errW_none, errW_some] <;> rfl), by repeat (first | (with_reducible first | exact HB.out | apply below_alloc | apply pw_below_drewN | apply below_drew1) | exact HB.out)⟩
                                  · rw [if_neg c89] at H
                                    exact absurd H (by simp)
                    · rw [if_neg c29] at H
                      exact absurd H (by simp)
                  · rw [if_neg c28] at H
                    exact absurd H (by simp)
              · rw [if_neg c25] at H
                exact absurd H (by simp)
            · rw [if_neg c24] at H
              exact absurd H (by simp)
    · rw [if_neg c5] at H
      exact absurd H (by simp)
  · rw [if_neg c4] at H
    exact absurd H (by simp)

end Go.Proofs.Ytklkcenffajfeaa.Q
