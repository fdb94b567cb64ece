-- Printed for this claim by mp.py, a program of its prover, through the kit's print. Lean checks it.
import Derived.Test.YtedaifgbnojojaaQx0
import Derived.Test.YtedaifgbnojojaaQx1
import Derived.Test.YtedaifgbnojojaaQx2
namespace Go.Proofs.Ytedaifgbnojojaa.Q
open Go.RowKit Go.Proofs.YtedaifgbnojojaaW.PrintWords Go.Proofs.YtedaifgbnojojaaW.PrintLast Go.Proofs.YtedaifgbnojojaaW.PrintMore
attribute [local go_sem] max2_int min2_int max_two min_two max_three min_three max_four min_four   -- for this text's walks alone
set_option linter.unusedVariables false
set_option linter.unusedSimpArgs false

/-! ### culletlaw03_Gf16Logs: function 6 -/
mutual
def culletlaw03_Gf16Logs.j0 : Nat → Int → Int → Int → Int → Bool → Option (Bool)
  | 0, _, _, _, _, _ => none
  | k + 1, x0, x1, x2, x8, x55 => if x55 = true then (some false) else (if x2 < 4611686018427387904 then ((gf16_Tables_Exp.f (wrap64 (x2 + 65535))).bind fun t119 => (culletlaw03_Gf16Logs.j1 k x0 x1 (t119 != x8))) else (culletlaw03_Gf16Logs.j1 k x0 x1 false))
def culletlaw03_Gf16Logs.j1 : Nat → Int → Int → Bool → Option (Bool)
  | 0, _, _, _ => none
  | k + 1, x0, x1, x65 => if x65 = true then (some false) else ((gf16_Tables_Log.f x0).bind fun bt120 => ((gf16_Tables_Log.f x1).bind fun bt122 => (if x0 = 0 then (culletlaw03_Gf16Logs.j2 k x0 x1 bt120.1 bt120.2 bt122.1 bt122.2 true) else (culletlaw03_Gf16Logs.j2 k x0 x1 bt120.1 bt120.2 bt122.1 bt122.2 (x1 == 0)))))
def culletlaw03_Gf16Logs.j2 : Nat → Int → Int → Int → Int → Int → Int → Bool → Option (Bool)
  | 0, _, _, _, _, _, _, _ => none
  | k + 1, x0, x1, x11, x12, x13, x14, x83 => if x83 = true then (if x0 = 0 then (if x12 = 20 then (if x11 = 0 then (if x1 = 0 then (if x14 = 20 then (if x13 = 0 then ((gf16_Tables_Mul.f x0 x1).bind fun t124 => (some (t124 == 0))) else (some false)) else (some false)) else ((gf16_Tables_Mul.f x0 x1).bind fun t125 => (some (t125 == 0)))) else (some false)) else (some false)) else (if x1 = 0 then (if x14 = 20 then (if x13 = 0 then ((gf16_Tables_Mul.f x0 x1).bind fun t126 => (some (t126 == 0))) else (some false)) else (some false)) else ((gf16_Tables_Mul.f x0 x1).bind fun t127 => (some (t127 == 0))))) else ((gf16_Mul.f k x0 x1).bind fun t128 => ((gf16_Tables_Log.f t128).bind fun bt129 => (if x12 = 0 then (if x14 = 0 then (if bt129.2 = 0 then ((gf16_Tables_Exp.f x11).bind fun t131 => (if t131 = x0 then (if bt129.1 = (Int.tmod (wrap64 (x11 + x13)) 65535) then ((gf16_Tables_Mul.f x0 x1).bind fun t132 => ((gf16_Tables_Exp.f (wrap64 (x11 + x13))).bind fun t133 => (some (t132 == t133)))) else (some false)) else (some false))) else (some false)) else (some false)) else (some false))))
end
def culletlaw03_Gf16Logs.f (k : Nat) (a0 : Int) (a1 : Int) (a2 : Int) : Option (Bool) := (gf16_New.f).bind fun _ => ((gf16_Tables_Exp.f 1).bind fun t115 => (if t115 = 2 then ((gf16_Tables_Exp.f a2).bind fun t116 => ((gf16_Tables_Log.f t116).bind fun bt117 => (if bt117.2 = 0 then (if bt117.1 < 0 then (culletlaw03_Gf16Logs.j0 k a0 a1 a2 t116 true) else (if bt117.1 > 65534 then (culletlaw03_Gf16Logs.j0 k a0 a1 a2 t116 true) else (if (Int.tmod (wrap64 (bt117.1 - (Int.tmod a2 65535))) 65535) = 0 then (culletlaw03_Gf16Logs.j0 k a0 a1 a2 t116 (t116 == 0)) else (culletlaw03_Gf16Logs.j0 k a0 a1 a2 t116 true)))) else (culletlaw03_Gf16Logs.j0 k a0 a1 a2 t116 true)))) else (some false)))
theorem culletlaw03_Gf16Logs.mono_l : ∀ k, (∀ y0 y1 y2 y3 y4, LeO (culletlaw03_Gf16Logs.j0 k y0 y1 y2 y3 y4) (culletlaw03_Gf16Logs.j0 (k + 1) y0 y1 y2 y3 y4)) ∧ (∀ y0 y1 y2, LeO (culletlaw03_Gf16Logs.j1 k y0 y1 y2) (culletlaw03_Gf16Logs.j1 (k + 1) y0 y1 y2)) ∧ (∀ y0 y1 y2 y3 y4 y5 y6, LeO (culletlaw03_Gf16Logs.j2 k y0 y1 y2 y3 y4 y5 y6) (culletlaw03_Gf16Logs.j2 (k + 1) y0 y1 y2 y3 y4 y5 y6))
  | 0 => ⟨fun _ _ _ _ _ r h => by simp [culletlaw03_Gf16Logs.j0] at h, fun _ _ _ r h => by simp [culletlaw03_Gf16Logs.j1] at h, fun _ _ _ _ _ _ _ r h => by simp [culletlaw03_Gf16Logs.j2] at h⟩
  | k + 1 => by
    obtain ⟨ih0, ih1, ih2⟩ := culletlaw03_Gf16Logs.mono_l k
    refine ⟨?_, ?_, ?_⟩
    · intro y0 y1 y2 y3 y4
      unfold culletlaw03_Gf16Logs.j0
      repeat' first
      | (with_reducible exact ih0 _ _ _ _ _)
      | (with_reducible exact ih1 _ _ _)
      | (with_reducible exact ih2 _ _ _ _ _ _ _)
      | (with_reducible exact gf16_Mul.mono _ _ _)
      | (with_reducible exact LeO.refl _)
      | (with_reducible exact LeO.none _)
      | (with_reducible refine LeO.ite ?_ ?_)
      | (with_reducible refine LeO.bind ?_ (fun _ => ?_))
      | exact ih0 _ _ _ _ _
      | exact ih1 _ _ _
      | exact ih2 _ _ _ _ _ _ _
      | exact gf16_Mul.mono _ _ _
      | exact LeO.none _
      | refine LeO.ite ?_ ?_
      | refine LeO.bind ?_ (fun _ => ?_)
    · intro y0 y1 y2
      unfold culletlaw03_Gf16Logs.j1
      repeat' first
      | (with_reducible exact ih0 _ _ _ _ _)
      | (with_reducible exact ih1 _ _ _)
      | (with_reducible exact ih2 _ _ _ _ _ _ _)
      | (with_reducible exact gf16_Mul.mono _ _ _)
      | (with_reducible exact LeO.refl _)
      | (with_reducible exact LeO.none _)
      | (with_reducible refine LeO.ite ?_ ?_)
      | (with_reducible refine LeO.bind ?_ (fun _ => ?_))
      | exact ih0 _ _ _ _ _
      | exact ih1 _ _ _
      | exact ih2 _ _ _ _ _ _ _
      | exact gf16_Mul.mono _ _ _
      | exact LeO.none _
      | refine LeO.ite ?_ ?_
      | refine LeO.bind ?_ (fun _ => ?_)
    · intro y0 y1 y2 y3 y4 y5 y6
      unfold culletlaw03_Gf16Logs.j2
      repeat' first
      | (with_reducible exact ih0 _ _ _ _ _)
      | (with_reducible exact ih1 _ _ _)
      | (with_reducible exact ih2 _ _ _ _ _ _ _)
      | (with_reducible exact gf16_Mul.mono _ _ _)
      | (with_reducible exact LeO.refl _)
      | (with_reducible exact LeO.none _)
      | (with_reducible refine LeO.ite ?_ ?_)
      | (with_reducible refine LeO.bind ?_ (fun _ => ?_))
      | exact ih0 _ _ _ _ _
      | exact ih1 _ _ _
      | exact ih2 _ _ _ _ _ _ _
      | exact gf16_Mul.mono _ _ _
      | exact LeO.none _
      | refine LeO.ite ?_ ?_
      | refine LeO.bind ?_ (fun _ => ?_)
theorem culletlaw03_Gf16Logs.mono : ∀ a0 a1 a2 k, LeO (culletlaw03_Gf16Logs.f k a0 a1 a2) (culletlaw03_Gf16Logs.f (k + 1) a0 a1 a2) := by
  intro a0 a1 a2 k
  obtain ⟨ih0, ih1, ih2⟩ := culletlaw03_Gf16Logs.mono_l k
  unfold culletlaw03_Gf16Logs.f
  repeat' first
      | (with_reducible exact ih0 _ _ _ _ _)
      | (with_reducible exact ih1 _ _ _)
      | (with_reducible exact ih2 _ _ _ _ _ _ _)
      | (with_reducible exact gf16_Mul.mono _ _ _)
      | (with_reducible exact LeO.refl _)
      | (with_reducible exact LeO.none _)
      | (with_reducible refine LeO.ite ?_ ?_)
      | (with_reducible refine LeO.bind ?_ (fun _ => ?_))
      | exact ih0 _ _ _ _ _
      | exact ih1 _ _ _
      | exact ih2 _ _ _ _ _ _ _
      | exact gf16_Mul.mono _ _ _
      | exact LeO.none _
      | refine LeO.ite ?_ ?_
      | refine LeO.bind ?_ (fun _ => ?_)
set_option maxHeartbeats 8000000 in
set_option maxRecDepth 100000 in
theorem culletlaw03_Gf16Logs.calls (k : Nat) (a0 : Int) (a1 : Int) (a2 : Int) (r : Bool) (w : World) (h : culletlaw03_Gf16Logs.f k a0 a1 a2 = some r) :
    Calls Try.prog 6 #[.int .u16 a0, .int .u16 a1, .int .i64 a2] w fun e w' => e = .returned (.bool r) ∧ Below w.heap.size w w' := by
  have HB := Aside0.mk (Below.refl w.heap.size w)
  have H : ((gf16_New.f).bind fun _ => ((gf16_Tables_Exp.f 1).bind fun t115 => (if t115 = 2 then ((gf16_Tables_Exp.f a2).bind fun t116 => ((gf16_Tables_Log.f t116).bind fun bt117 => (if bt117.2 = 0 then (if bt117.1 < 0 then (culletlaw03_Gf16Logs.j0 k a0 a1 a2 t116 true) else (if bt117.1 > 65534 then (culletlaw03_Gf16Logs.j0 k a0 a1 a2 t116 true) else (if (Int.tmod (wrap64 (bt117.1 - (Int.tmod a2 65535))) 65535) = 0 then (culletlaw03_Gf16Logs.j0 k a0 a1 a2 t116 (t116 == 0)) else (culletlaw03_Gf16Logs.j0 k a0 a1 a2 t116 true)))) else (culletlaw03_Gf16Logs.j0 k a0 a1 a2 t116 true)))) else (some false)))) = some r := h
  clear h
  replace H := Option.bind_eq_some_iff.mp H
  obtain ⟨_, A40, H⟩ := H
  replace H : ((gf16_Tables_Exp.f 1).bind fun t115 => (if t115 = 2 then ((gf16_Tables_Exp.f a2).bind fun t116 => ((gf16_Tables_Log.f t116).bind fun bt117 => (if bt117.2 = 0 then (if bt117.1 < 0 then (culletlaw03_Gf16Logs.j0 k a0 a1 a2 t116 true) else (if bt117.1 > 65534 then (culletlaw03_Gf16Logs.j0 k a0 a1 a2 t116 true) else (if (Int.tmod (wrap64 (bt117.1 - (Int.tmod a2 65535))) 65535) = 0 then (culletlaw03_Gf16Logs.j0 k a0 a1 a2 t116 (t116 == 0)) else (culletlaw03_Gf16Logs.j0 k a0 a1 a2 t116 true)))) else (culletlaw03_Gf16Logs.j0 k a0 a1 a2 t116 true)))) else (some false))) = some r := H
  have A4 := Aside0.mk A40
  clear A40
  replace H := Option.bind_eq_some_iff.mp H
  obtain ⟨t115, A50, H⟩ := H
  replace H : (if t115 = 2 then ((gf16_Tables_Exp.f a2).bind fun t116 => ((gf16_Tables_Log.f t116).bind fun bt117 => (if bt117.2 = 0 then (if bt117.1 < 0 then (culletlaw03_Gf16Logs.j0 k a0 a1 a2 t116 true) else (if bt117.1 > 65534 then (culletlaw03_Gf16Logs.j0 k a0 a1 a2 t116 true) else (if (Int.tmod (wrap64 (bt117.1 - (Int.tmod a2 65535))) 65535) = 0 then (culletlaw03_Gf16Logs.j0 k a0 a1 a2 t116 (t116 == 0)) else (culletlaw03_Gf16Logs.j0 k a0 a1 a2 t116 true)))) else (culletlaw03_Gf16Logs.j0 k a0 a1 a2 t116 true)))) else (some false)) = some r := H
  have A5 := Aside0.mk A50
  clear A50
  by_cases c6 : t115 = 2
  · rw [if_pos c6] at H
    have c6b0 : (t115 == 2) = true := beq_iff_eq.mpr c6
    have c6b1 : (t115 != 2) = false := bne_eq_false_iff_eq.mpr c6
    clear c6
    replace H := Option.bind_eq_some_iff.mp H
    obtain ⟨t116, A70, H⟩ := H
    replace H : ((gf16_Tables_Log.f t116).bind fun bt117 => (if bt117.2 = 0 then (if bt117.1 < 0 then (culletlaw03_Gf16Logs.j0 k a0 a1 a2 t116 true) else (if bt117.1 > 65534 then (culletlaw03_Gf16Logs.j0 k a0 a1 a2 t116 true) else (if (Int.tmod (wrap64 (bt117.1 - (Int.tmod a2 65535))) 65535) = 0 then (culletlaw03_Gf16Logs.j0 k a0 a1 a2 t116 (t116 == 0)) else (culletlaw03_Gf16Logs.j0 k a0 a1 a2 t116 true)))) else (culletlaw03_Gf16Logs.j0 k a0 a1 a2 t116 true))) = some r := H
    have A7 := Aside0.mk A70
    clear A70
    replace H := Option.bind_eq_some_iff.mp H
    obtain ⟨⟨t117, t118⟩, A80, H⟩ := H
    replace H : (if t118 = 0 then (if t117 < 0 then (culletlaw03_Gf16Logs.j0 k a0 a1 a2 t116 true) else (if t117 > 65534 then (culletlaw03_Gf16Logs.j0 k a0 a1 a2 t116 true) else (if (Int.tmod (wrap64 (t117 - (Int.tmod a2 65535))) 65535) = 0 then (culletlaw03_Gf16Logs.j0 k a0 a1 a2 t116 (t116 == 0)) else (culletlaw03_Gf16Logs.j0 k a0 a1 a2 t116 true)))) else (culletlaw03_Gf16Logs.j0 k a0 a1 a2 t116 true)) = some r := H
    have A8 := Aside0.mk A80
    clear A80
    have HC9 := Aside0.mk H
    clear H
    go_enter Try.func6, Try.ntmps6
    go_upto_region 6 with (first | ((with_reducible refine gate_callee (f := 13) rfl ?_); refine goesL_ (some 17) rfl rfl Try.func13 (by kernel_rfl) rfl #[] rfl (by (try simp only [List.map_toArray, List.map_cons, List.map_nil]); first | done | rfl | (simp only [tb_wrap8]; done) | (simp only [tb_wrap8]; rfl) | (simp only [List.length_drop, List.length_take]; rfl)) ?_; (with_reducible refine (gf16_New.calls   w _ ?side1 A4.out).mono ?_); (case side1 => repeat (first | (with_reducible first | exact HB.out | apply below_alloc | apply pw_below_drewN | apply below_drew1) | exact HB.out)); rintro e w10 ⟨g114, rfl, hi, hb, hb2⟩; refine ⟨_, rfl, ?_⟩; have n0_ := Aside0.mk (hb); have n1_ := Aside0.mk (hi); clear HB; have HB := n0_; have HI114 := n1_; clear n0_ n1_; (try clear hb); (try clear hb2); (try clear hk); (try clear hi)) | (go_at_call 14; (with_reducible refine (gf16_Tables_Exp.calls g114 1 t115 _ ?side1 A5.out).mono ?_); (case side1 => repeat (first | (with_reducible first | exact HI114.out | apply IsS66.alloc | apply IsS66.drewN | apply IsS66.drew) | exact HI114.out)); rintro e w' ⟨rfl, ⟨nd, rfl⟩⟩) | ((with_reducible refine gate_callee (f := 14) rfl ?_); refine goesL_ (some 27) rfl rfl Try.func14 (by kernel_rfl) rfl #[.pointer (some ⟨g114, 0, none⟩), .int .i64 a2] rfl (by (try simp only [List.map_toArray, List.map_cons, List.map_nil]); first | done | rfl | (simp only [tb_wrap8]; done) | (simp only [tb_wrap8]; rfl) | (simp only [List.length_drop, List.length_take]; rfl)) ?_; (with_reducible refine (gf16_Tables_Exp.calls g114 a2 t116 _ ?side1 A7.out).mono ?_); (case side1 => repeat (first | (with_reducible first | exact HI114.out | apply IsS66.alloc | apply IsS66.drewN | apply IsS66.drew) | exact HI114.out)); rintro e w' ⟨rfl, ⟨nd, rfl⟩⟩; refine ⟨_, rfl, ?_⟩) | ((with_reducible refine gate_callee (f := 24) rfl ?_); refine goesL_ (some 31) rfl rfl Try.func24 (by kernel_rfl) rfl #[.pointer (some ⟨g114, 0, none⟩), .int .u16 t116] rfl (by (try simp only [List.map_toArray, List.map_cons, List.map_nil]); first | done | rfl | (simp only [tb_wrap8]; done) | (simp only [tb_wrap8]; rfl) | (simp only [List.length_drop, List.length_take]; rfl)) ?_; (with_reducible refine (gf16_Tables_Log.calls g114 t116 t117 t118 _ ?side1 A8.out).mono ?_); (case side1 => repeat (first | (with_reducible first | exact HI114.out | apply IsS66.alloc | apply IsS66.drewN | apply IsS66.drew) | exact HI114.out)); rintro e w' ⟨rfl, ⟨nd, rfl⟩⟩; refine ⟨_, rfl, ?_⟩))
    (try simp only [Act.put, List.setIfInBounds_toArray, List.set_cons_zero, List.set_cons_succ])
    go_cut [55] (fun v55 wc => ∃ (kq : Nat) (x55_8 : Bool), v55 = .bool x55_8 ∧ Aside0 (culletlaw03_Gf16Logs.j0 kq a0 a1 a2 t116 x55_8 = some r) ∧ Aside0 (kq ≤ k) ∧ Aside0 (IsS66 w wc g114 ) ∧ Aside0 (Below w.heap.size w wc))
    case first =>
      have H := HC9.out
      clear HC9
      by_cases c11 : t118 = 0
      · rw [if_pos c11] at H
        have c11b0 : (t118 == 0) = true := beq_iff_eq.mpr c11
        have c11b1 : (t118 != 0) = false := bne_eq_false_iff_eq.mpr c11
        clear c11
        (first | rw [c11b0] | (simp only [i64_w, i32_w]; rw [c11b0]) | skip)
        by_cases c12 : t117 < 0
        · rw [if_pos c12] at H
          have c12b0 : decide (t117 < 0) = true := decide_eq_true c12
          clear c12
          have H' := Aside0.mk H
          clear H
          go_wp2
          go_meet
          case rel => exact ⟨_, (true), (by first | rfl | (simp; done) | (simp [*]; done)), H', ⟨by first | omega | exact Nat.le_refl _⟩, ⟨by repeat (first | (with_reducible first | exact HI114.out | apply IsS66.alloc | apply IsS66.drewN | apply IsS66.drew) | exact HI114.out)⟩, ⟨by repeat (first | (with_reducible first | exact HB.out | apply below_alloc | apply pw_below_drewN | apply below_drew1 | refine below_set ?_ (IsS66.ge HI114.out)) | exact HB.out)⟩⟩
        · rw [if_neg c12] at H
          have c12b0 : decide (t117 < 0) = false := decide_eq_false c12
          clear c12
          by_cases c13 : t117 > 65534
          · rw [if_pos c13] at H
            have c13b0 : decide (65534 < t117) = true := decide_eq_true c13
            clear c13
            have H' := Aside0.mk H
            clear H
            go_wp2
            go_meet
            case rel => exact ⟨_, (true), (by first | rfl | (simp; done) | (simp [*]; done)), H', ⟨by first | omega | exact Nat.le_refl _⟩, ⟨by repeat (first | (with_reducible first | exact HI114.out | apply IsS66.alloc | apply IsS66.drewN | apply IsS66.drew) | exact HI114.out)⟩, ⟨by repeat (first | (with_reducible first | exact HB.out | apply below_alloc | apply pw_below_drewN | apply below_drew1 | refine below_set ?_ (IsS66.ge HI114.out)) | exact HB.out)⟩⟩
          · rw [if_neg c13] at H
            have c13b0 : decide (65534 < t117) = false := decide_eq_false c13
            clear c13
            by_cases c14 : (Int.tmod (wrap64 (t117 - (Int.tmod a2 65535))) 65535) = 0
            · rw [if_pos c14] at H
              have c14b0 : ((Int.tmod (wrap64 (t117 - (Int.tmod a2 65535))) 65535) == 0) = true := beq_iff_eq.mpr c14
              have c14b1 : ((Int.tmod (wrap64 (t117 - (Int.tmod a2 65535))) 65535) != 0) = false := bne_eq_false_iff_eq.mpr c14
              clear c14
              have H' := Aside0.mk H
              clear H
              go_wp2
              go_meet
              case rel => exact ⟨_, ((t116 == 0)), (by first | rfl | (simp; done) | (simp [*]; done)), H', ⟨by first | omega | exact Nat.le_refl _⟩, ⟨by repeat (first | (with_reducible first | exact HI114.out | apply IsS66.alloc | apply IsS66.drewN | apply IsS66.drew) | exact HI114.out)⟩, ⟨by repeat (first | (with_reducible first | exact HB.out | apply below_alloc | apply pw_below_drewN | apply below_drew1 | refine below_set ?_ (IsS66.ge HI114.out)) | exact HB.out)⟩⟩
            · rw [if_neg c14] at H
              have c14b0 : ((Int.tmod (wrap64 (t117 - (Int.tmod a2 65535))) 65535) == 0) = false := beq_eq_false_iff_ne.mpr c14
              have c14b1 : ((Int.tmod (wrap64 (t117 - (Int.tmod a2 65535))) 65535) != 0) = true := bne_iff_ne.mpr c14
              have H' := Aside0.mk H
              clear H
              go_wp2
              go_meet
              case rel => exact ⟨_, (true), (by first | rfl | (simp; done) | (simp [*]; done)), H', ⟨by first | omega | exact Nat.le_refl _⟩, ⟨by repeat (first | (with_reducible first | exact HI114.out | apply IsS66.alloc | apply IsS66.drewN | apply IsS66.drew) | exact HI114.out)⟩, ⟨by repeat (first | (with_reducible first | exact HB.out | apply below_alloc | apply pw_below_drewN | apply below_drew1 | refine below_set ?_ (IsS66.ge HI114.out)) | exact HB.out)⟩⟩
      · rw [if_neg c11] at H
        have c11b0 : (t118 == 0) = false := beq_eq_false_iff_ne.mpr c11
        have c11b1 : (t118 != 0) = true := bne_iff_ne.mpr c11
        (first | rw [c11b0] | (simp only [i64_w, i32_w]; rw [c11b0]) | skip)
        have H' := Aside0.mk H
        clear H
        go_wp2
        go_meet
        case rel => exact ⟨_, (true), (by first | rfl | (simp; done) | (simp [*]; done)), H', ⟨by first | omega | exact Nat.le_refl _⟩, ⟨by repeat (first | (with_reducible first | exact HI114.out | apply IsS66.alloc | apply IsS66.drewN | apply IsS66.drew) | exact HI114.out)⟩, ⟨by repeat (first | (with_reducible first | exact HB.out | apply below_alloc | apply pw_below_drewN | apply below_drew1 | refine below_set ?_ (IsS66.ge HI114.out)) | exact HB.out)⟩⟩
    case rest =>
      clear HC9
      try clear c1
      try clear c2
      try clear p2
      try clear c6
      try clear c6b0
      try clear c6b1
      try clear p6
      try clear p8
      try clear c11
      try clear c11b0
      try clear c11b1
      try clear c12
      try clear c12b0
      try clear c13
      try clear c13b0
      try clear c14
      try clear c14b0
      try clear c14b1
      obtain ⟨kq, x55_8, rfl, HA, HJ8, HI114, HB⟩ := hcut
      cases kq with
      | zero => exact absurd HA.out (by simp [culletlaw03_Gf16Logs.j0])
      | succ kj8 =>
        have H := HA.out
        clear HA
        simp only [culletlaw03_Gf16Logs.j0] at H
        by_cases c15 : x55_8 = true
        · subst c15
          have H1 : (some false) = some r := by rw [if_pos rfl] at H; exact H
          clear H
          have H := H1
          clear H1
          obtain rfl := Option.some.inj H
          go_wp2
          go_ret
          exact ⟨by first | rfl | (simp [errW_none, errW_some] <;> rfl) | (simp [*, errW_none, errW_some] <;> rfl), by repeat (first | (with_reducible first | exact HB.out | apply below_alloc | apply pw_below_drewN | apply below_drew1 | refine below_set ?_ (IsS66.ge HI114.out)) | exact HB.out)⟩
        · replace c15 := Bool.eq_false_iff.mpr c15
          subst c15
          have H1 : (if a2 < 4611686018427387904 then ((gf16_Tables_Exp.f (wrap64 (a2 + 65535))).bind fun t119 => (culletlaw03_Gf16Logs.j1 kj8 a0 a1 (t119 != t116))) else (culletlaw03_Gf16Logs.j1 kj8 a0 a1 false)) = some r := by rw [if_neg (show ¬ (false = true) by decide)] at H; exact H
          clear H
          have H := H1
          clear H1
          have HC16 := Aside0.mk H
          clear H
          go_upto_region 8 with (fail)
          go_cut [65] (fun v65 wc => ∃ (kq : Nat) (x65_15 : Bool), v65 = .bool x65_15 ∧ Aside0 (culletlaw03_Gf16Logs.j1 kq a0 a1 x65_15 = some r) ∧ Aside0 (kq ≤ kj8) ∧ Aside0 (IsS66 w wc g114 ) ∧ Aside0 (Below w.heap.size w wc))
          case first =>
            have H := HC16.out
            clear HC16
            by_cases c17 : a2 < 4611686018427387904
            · rw [if_pos c17] at H
              have c17b0 : decide (a2 < 4611686018427387904) = true := decide_eq_true c17
              clear c17
              (first | rw [c17b0] | (simp only [i64_w, i32_w]; rw [c17b0]) | skip)
              replace H := Option.bind_eq_some_iff.mp H
              obtain ⟨t119, A180, H⟩ := H
              replace H : (culletlaw03_Gf16Logs.j1 kj8 a0 a1 (t119 != t116)) = some r := H
              have A18 := Aside0.mk A180
              clear A180
              have H' := Aside0.mk H
              clear H
              go_wp2_with (first | (go_at_call 14; (with_reducible refine (gf16_Tables_Exp.calls g114 (wrap64 (a2 + 65535)) t119 _ ?side1 A18.out).mono ?_); (case side1 => repeat (first | (with_reducible first | exact HI114.out | apply IsS66.alloc | apply IsS66.drewN | apply IsS66.drew) | exact HI114.out)); rintro e w' ⟨rfl, ⟨nd, rfl⟩⟩))
              go_meet
              case rel => exact ⟨_, ((t119 != t116)), (by first | rfl | (simp; done) | (simp [*]; done)), H', ⟨by have := HJ8.out; first | omega | exact Nat.le_refl _⟩, ⟨by repeat (first | (with_reducible first | exact HI114.out | apply IsS66.alloc | apply IsS66.drewN | apply IsS66.drew) | exact HI114.out)⟩, ⟨by repeat (first | (with_reducible first | exact HB.out | apply below_alloc | apply pw_below_drewN | apply below_drew1 | refine below_set ?_ (IsS66.ge HI114.out)) | exact HB.out)⟩⟩
            · rw [if_neg c17] at H
              have c17b0 : decide (a2 < 4611686018427387904) = false := decide_eq_false c17
              clear c17
              (first | rw [c17b0] | (simp only [i64_w, i32_w]; rw [c17b0]) | skip)
              have H' := Aside0.mk H
              clear H
              go_wp2
              go_meet
              case rel => exact ⟨_, (false), (by first | rfl | (simp; done) | (simp [*]; done)), H', ⟨by have := HJ8.out; first | omega | exact Nat.le_refl _⟩, ⟨by repeat (first | (with_reducible first | exact HI114.out | apply IsS66.alloc | apply IsS66.drewN | apply IsS66.drew) | exact HI114.out)⟩, ⟨by repeat (first | (with_reducible first | exact HB.out | apply below_alloc | apply pw_below_drewN | apply below_drew1 | refine below_set ?_ (IsS66.ge HI114.out)) | exact HB.out)⟩⟩
          case rest =>
            clear HC16
            try clear c1
            try clear c2
            try clear p2
            try clear c6
            try clear c6b0
            try clear c6b1
            try clear p6
            try clear p8
            try clear c11
            try clear c11b0
            try clear c11b1
            try clear c12
            try clear c12b0
            try clear c13
            try clear c13b0
            try clear c14
            try clear c14b0
            try clear c14b1
            try clear c15
            try clear c17
            try clear c17b0
            try clear p2
            try clear p6
            try clear p8
            obtain ⟨kq, x65_15, rfl, HA, HJ15, HI114, HB⟩ := hcut
            cases kq with
            | zero => exact absurd HA.out (by simp [culletlaw03_Gf16Logs.j1])
            | succ kj15 =>
              have H := HA.out
              clear HA
              simp only [culletlaw03_Gf16Logs.j1] at H
              by_cases c19 : x65_15 = true
              · subst c19
                have H1 : (some false) = some r := by rw [if_pos rfl] at H; exact H
                clear H
                have H := H1
                clear H1
                obtain rfl := Option.some.inj H
                go_wp2
                go_ret
                exact ⟨by first | rfl | (simp [errW_none, errW_some] <;> rfl) | (simp [*, errW_none, errW_some] <;> rfl), by repeat (first | (with_reducible first | exact HB.out | apply below_alloc | apply pw_below_drewN | apply below_drew1 | refine below_set ?_ (IsS66.ge HI114.out)) | exact HB.out)⟩
              · replace c19 := Bool.eq_false_iff.mpr c19
                subst c19
                have H1 : ((gf16_Tables_Log.f a0).bind fun bt120 => ((gf16_Tables_Log.f a1).bind fun bt122 => (if a0 = 0 then (culletlaw03_Gf16Logs.j2 kj15 a0 a1 bt120.1 bt120.2 bt122.1 bt122.2 true) else (culletlaw03_Gf16Logs.j2 kj15 a0 a1 bt120.1 bt120.2 bt122.1 bt122.2 (a1 == 0))))) = some r := by rw [if_neg (show ¬ (false = true) by decide)] at H; exact H
                clear H
                have H := H1
                clear H1
                replace H := Option.bind_eq_some_iff.mp H
                obtain ⟨⟨t120, t121⟩, A200, H⟩ := H
                replace H : ((gf16_Tables_Log.f a1).bind fun bt122 => (if a0 = 0 then (culletlaw03_Gf16Logs.j2 kj15 a0 a1 t120 t121 bt122.1 bt122.2 true) else (culletlaw03_Gf16Logs.j2 kj15 a0 a1 t120 t121 bt122.1 bt122.2 (a1 == 0)))) = some r := H
                have A20 := Aside0.mk A200
                clear A200
                replace H := Option.bind_eq_some_iff.mp H
                obtain ⟨⟨t122, t123⟩, A210, H⟩ := H
                replace H : (if a0 = 0 then (culletlaw03_Gf16Logs.j2 kj15 a0 a1 t120 t121 t122 t123 true) else (culletlaw03_Gf16Logs.j2 kj15 a0 a1 t120 t121 t122 t123 (a1 == 0))) = some r := H
                have A21 := Aside0.mk A210
                clear A210
                have HC22 := Aside0.mk H
                clear H
                go_upto_region 12 with (first | ((with_reducible refine gate_callee (f := 24) rfl ?_); refine goesL_ (some 69) rfl rfl Try.func24 (by kernel_rfl) rfl #[.pointer (some ⟨g114, 0, none⟩), .int .u16 a0] rfl (by (try simp only [List.map_toArray, List.map_cons, List.map_nil]); first | done | rfl | (simp only [tb_wrap8]; done) | (simp only [tb_wrap8]; rfl) | (simp only [List.length_drop, List.length_take]; rfl)) ?_; (with_reducible refine (gf16_Tables_Log.calls g114 a0 t120 t121 _ ?side1 A20.out).mono ?_); (case side1 => repeat (first | (with_reducible first | exact HI114.out | apply IsS66.alloc | apply IsS66.drewN | apply IsS66.drew) | exact HI114.out)); rintro e w' ⟨rfl, ⟨nd, rfl⟩⟩; refine ⟨_, rfl, ?_⟩) | ((with_reducible refine gate_callee (f := 24) rfl ?_); refine goesL_ (some 75) rfl rfl Try.func24 (by kernel_rfl) rfl #[.pointer (some ⟨g114, 0, none⟩), .int .u16 a1] rfl (by (try simp only [List.map_toArray, List.map_cons, List.map_nil]); first | done | rfl | (simp only [tb_wrap8]; done) | (simp only [tb_wrap8]; rfl) | (simp only [List.length_drop, List.length_take]; rfl)) ?_; (with_reducible refine (gf16_Tables_Log.calls g114 a1 t122 t123 _ ?side1 A21.out).mono ?_); (case side1 => repeat (first | (with_reducible first | exact HI114.out | apply IsS66.alloc | apply IsS66.drewN | apply IsS66.drew) | exact HI114.out)); rintro e w' ⟨rfl, ⟨nd, rfl⟩⟩; refine ⟨_, rfl, ?_⟩))
                (try simp only [Act.put, List.setIfInBounds_toArray, List.set_cons_zero, List.set_cons_succ])
                go_cut [83] (fun v83 wc => ∃ (kq : Nat) (x83_21 : Bool), v83 = .bool x83_21 ∧ Aside0 (culletlaw03_Gf16Logs.j2 kq a0 a1 t120 t121 t122 t123 x83_21 = some r) ∧ Aside0 (kq ≤ kj15) ∧ Aside0 (IsS66 w wc g114 ) ∧ Aside0 (Below w.heap.size w wc))
                case first =>
                  have H := HC22.out
                  clear HC22
                  by_cases c23 : a0 = 0
                  · rw [if_pos c23] at H
                    have c23b0 : (a0 == 0) = true := beq_iff_eq.mpr c23
                    have c23b1 : (a0 != 0) = false := bne_eq_false_iff_eq.mpr c23
                    clear c23
                    (first | rw [c23b0] | (simp only [i64_w, i32_w]; rw [c23b0]) | skip)
                    have H' := Aside0.mk H
                    clear H
                    go_wp2
                    go_meet
                    case rel => exact ⟨_, (true), (by first | rfl | (simp; done) | (simp [*]; done)), H', ⟨by have := HJ8.out; have := HJ15.out; first | omega | exact Nat.le_refl _⟩, ⟨by repeat (first | (with_reducible first | exact HI114.out | apply IsS66.alloc | apply IsS66.drewN | apply IsS66.drew) | exact HI114.out)⟩, ⟨by repeat (first | (with_reducible first | exact HB.out | apply below_alloc | apply pw_below_drewN | apply below_drew1 | refine below_set ?_ (IsS66.ge HI114.out)) | exact HB.out)⟩⟩
                  · rw [if_neg c23] at H
                    have c23b0 : (a0 == 0) = false := beq_eq_false_iff_ne.mpr c23
                    have c23b1 : (a0 != 0) = true := bne_iff_ne.mpr c23
                    (first | rw [c23b0] | (simp only [i64_w, i32_w]; rw [c23b0]) | skip)
                    have H' := Aside0.mk H
                    clear H
                    go_wp2
                    go_meet
                    case rel => exact ⟨_, ((a1 == 0)), (by first | rfl | (simp; done) | (simp [*]; done)), H', ⟨by have := HJ8.out; have := HJ15.out; first | omega | exact Nat.le_refl _⟩, ⟨by repeat (first | (with_reducible first | exact HI114.out | apply IsS66.alloc | apply IsS66.drewN | apply IsS66.drew) | exact HI114.out)⟩, ⟨by repeat (first | (with_reducible first | exact HB.out | apply below_alloc | apply pw_below_drewN | apply below_drew1 | refine below_set ?_ (IsS66.ge HI114.out)) | exact HB.out)⟩⟩
                case rest =>
                  clear HC22
                  try clear c1
                  try clear c2
                  try clear p2
                  try clear c6
                  try clear c6b0
                  try clear c6b1
                  try clear p6
                  try clear p8
                  try clear c11
                  try clear c11b0
                  try clear c11b1
                  try clear c12
                  try clear c12b0
                  try clear c13
                  try clear c13b0
                  try clear c14
                  try clear c14b0
                  try clear c14b1
                  try clear c15
                  try clear c17
                  try clear c17b0
                  try clear c19
                  try clear c23
                  try clear c23b0
                  try clear c23b1
                  try clear p2
                  try clear p6
                  try clear p8
                  obtain ⟨kq, x83_21, rfl, HA, HJ21, HI114, HB⟩ := hcut
                  cases kq with
                  | zero => exact absurd HA.out (by simp [culletlaw03_Gf16Logs.j2])
                  | succ kj21 =>
                    have H := HA.out
                    clear HA
                    simp only [culletlaw03_Gf16Logs.j2] at H
                    by_cases c24 : x83_21 = true
                    · subst c24
                      have H1 : (if a0 = 0 then (if t121 = 20 then (if t120 = 0 then (if a1 = 0 then (if t123 = 20 then (if t122 = 0 then ((gf16_Tables_Mul.f a0 a1).bind fun t124 => (some (t124 == 0))) else (some false)) else (some false)) else ((gf16_Tables_Mul.f a0 a1).bind fun t125 => (some (t125 == 0)))) else (some false)) else (some false)) else (if a1 = 0 then (if t123 = 20 then (if t122 = 0 then ((gf16_Tables_Mul.f a0 a1).bind fun t126 => (some (t126 == 0))) else (some false)) else (some false)) else ((gf16_Tables_Mul.f a0 a1).bind fun t127 => (some (t127 == 0))))) = some r := by rw [if_pos rfl] at H; exact H
                      clear H
                      have H := H1
                      clear H1
                      by_cases c25 : a0 = 0
                      · rw [if_pos c25] at H
                        have c25b0 : (a0 == 0) = true := beq_iff_eq.mpr c25
                        have c25b1 : (a0 != 0) = false := bne_eq_false_iff_eq.mpr c25
                        clear c25
                        by_cases c26 : t121 = 20
                        · rw [if_pos c26] at H
                          have c26b0 : (t121 == 20) = true := beq_iff_eq.mpr c26
                          have c26b1 : (t121 != 20) = false := bne_eq_false_iff_eq.mpr c26
                          clear c26
                          by_cases c27 : t120 = 0
                          · rw [if_pos c27] at H
                            have c27b0 : (t120 == 0) = true := beq_iff_eq.mpr c27
                            have c27b1 : (t120 != 0) = false := bne_eq_false_iff_eq.mpr c27
                            clear c27
                            by_cases c28 : a1 = 0
                            · rw [if_pos c28] at H
                              have c28b0 : (a1 == 0) = true := beq_iff_eq.mpr c28
                              have c28b1 : (a1 != 0) = false := bne_eq_false_iff_eq.mpr c28
                              clear c28
                              by_cases c29 : t123 = 20
                              · rw [if_pos c29] at H
                                have c29b0 : (t123 == 20) = true := beq_iff_eq.mpr c29
                                have c29b1 : (t123 != 20) = false := bne_eq_false_iff_eq.mpr c29
                                clear c29
                                by_cases c30 : t122 = 0
                                · rw [if_pos c30] at H
                                  have c30b0 : (t122 == 0) = true := beq_iff_eq.mpr c30
                                  have c30b1 : (t122 != 0) = false := bne_eq_false_iff_eq.mpr c30
                                  clear c30
                                  replace H := Option.bind_eq_some_iff.mp H
                                  obtain ⟨t124, A310, H⟩ := H
                                  replace H : (some (t124 == 0)) = some r := H
                                  have A31 := Aside0.mk A310
                                  clear A310
                                  obtain rfl := Option.some.inj H
                                  go_wp2_with (first | (go_at_call 25; (with_reducible refine (gf16_Tables_Mul.calls g114 a0 a1 t124 _ ?side1 A31.out).mono ?_); (case side1 => repeat (first | (with_reducible first | exact HI114.out | apply IsS66.alloc | apply IsS66.drewN | apply IsS66.drew) | exact HI114.out)); rintro e w' ⟨rfl, ⟨nd, rfl⟩⟩))
                                  go_ret
                                  exact ⟨by first | rfl | (simp [errW_none, errW_some] <;> rfl) | (simp [*, errW_none, errW_some] <;> rfl), by repeat (first | (with_reducible first | exact HB.out | apply below_alloc | apply pw_below_drewN | apply below_drew1 | refine below_set ?_ (IsS66.ge HI114.out)) | exact HB.out)⟩
                                · rw [if_neg c30] at H
                                  have c30b0 : (t122 == 0) = false := beq_eq_false_iff_ne.mpr c30
                                  have c30b1 : (t122 != 0) = true := bne_iff_ne.mpr c30
                                  obtain rfl := Option.some.inj H
                                  go_wp2
                                  go_ret
                                  exact ⟨by first | rfl | (simp [errW_none, errW_some] <;> rfl) | (simp [*, errW_none, errW_some] <;> rfl), by repeat (first | (with_reducible first | exact HB.out | apply below_alloc | apply pw_below_drewN | apply below_drew1 | refine below_set ?_ (IsS66.ge HI114.out)) | exact HB.out)⟩
                              · rw [if_neg c29] at H
                                have c29b0 : (t123 == 20) = false := beq_eq_false_iff_ne.mpr c29
                                have c29b1 : (t123 != 20) = true := bne_iff_ne.mpr c29
                                obtain rfl := Option.some.inj H
                                go_wp2
                                go_ret
                                exact ⟨by first | rfl | (simp [errW_none, errW_some] <;> rfl) | (simp [*, errW_none, errW_some] <;> rfl), by repeat (first | (with_reducible first | exact HB.out | apply below_alloc | apply pw_below_drewN | apply below_drew1 | refine below_set ?_ (IsS66.ge HI114.out)) | exact HB.out)⟩
                            · rw [if_neg c28] at H
                              have c28b0 : (a1 == 0) = false := beq_eq_false_iff_ne.mpr c28
                              have c28b1 : (a1 != 0) = true := bne_iff_ne.mpr c28
                              replace H := Option.bind_eq_some_iff.mp H
                              obtain ⟨t125, A320, H⟩ := H
                              replace H : (some (t125 == 0)) = some r := H
                              have A32 := Aside0.mk A320
                              clear A320
                              obtain rfl := Option.some.inj H
                              go_wp2_with (first | (go_at_call 25; (with_reducible refine (gf16_Tables_Mul.calls g114 a0 a1 t125 _ ?side1 A32.out).mono ?_); (case side1 => repeat (first | (with_reducible first | exact HI114.out | apply IsS66.alloc | apply IsS66.drewN | apply IsS66.drew) | exact HI114.out)); rintro e w' ⟨rfl, ⟨nd, rfl⟩⟩))
                              go_ret
                              exact ⟨by first | rfl | (simp [errW_none, errW_some] <;> rfl) | (simp [*, errW_none, errW_some] <;> rfl), by repeat (first | (with_reducible first | exact HB.out | apply below_alloc | apply pw_below_drewN | apply below_drew1 | refine below_set ?_ (IsS66.ge HI114.out)) | exact HB.out)⟩
                          · rw [if_neg c27] at H
                            have c27b0 : (t120 == 0) = false := beq_eq_false_iff_ne.mpr c27
                            have c27b1 : (t120 != 0) = true := bne_iff_ne.mpr c27
                            obtain rfl := Option.some.inj H
                            go_wp2
                            go_ret
                            exact ⟨by first | rfl | (simp [errW_none, errW_some] <;> rfl) | (simp [*, errW_none, errW_some] <;> rfl), by repeat (first | (with_reducible first | exact HB.out | apply below_alloc | apply pw_below_drewN | apply below_drew1 | refine below_set ?_ (IsS66.ge HI114.out)) | exact HB.out)⟩
                        · rw [if_neg c26] at H
                          have c26b0 : (t121 == 20) = false := beq_eq_false_iff_ne.mpr c26
                          have c26b1 : (t121 != 20) = true := bne_iff_ne.mpr c26
                          obtain rfl := Option.some.inj H
                          go_wp2
                          go_ret
                          exact ⟨by first | rfl | (simp [errW_none, errW_some] <;> rfl) | (simp [*, errW_none, errW_some] <;> rfl), by repeat (first | (with_reducible first | exact HB.out | apply below_alloc | apply pw_below_drewN | apply below_drew1 | refine below_set ?_ (IsS66.ge HI114.out)) | exact HB.out)⟩
                      · rw [if_neg c25] at H
                        have c25b0 : (a0 == 0) = false := beq_eq_false_iff_ne.mpr c25
                        have c25b1 : (a0 != 0) = true := bne_iff_ne.mpr c25
                        by_cases c33 : a1 = 0
                        · rw [if_pos c33] at H
                          have c33b0 : (a1 == 0) = true := beq_iff_eq.mpr c33
                          have c33b1 : (a1 != 0) = false := bne_eq_false_iff_eq.mpr c33
                          clear c33
                          by_cases c34 : t123 = 20
                          · rw [if_pos c34] at H
                            have c34b0 : (t123 == 20) = true := beq_iff_eq.mpr c34
                            have c34b1 : (t123 != 20) = false := bne_eq_false_iff_eq.mpr c34
                            clear c34
                            by_cases c35 : t122 = 0
                            · rw [if_pos c35] at H
                              have c35b0 : (t122 == 0) = true := beq_iff_eq.mpr c35
                              have c35b1 : (t122 != 0) = false := bne_eq_false_iff_eq.mpr c35
                              clear c35
                              replace H := Option.bind_eq_some_iff.mp H
                              obtain ⟨t126, A360, H⟩ := H
                              replace H : (some (t126 == 0)) = some r := H
                              have A36 := Aside0.mk A360
                              clear A360
                              obtain rfl := Option.some.inj H
                              go_wp2_with (first | (go_at_call 25; (with_reducible refine (gf16_Tables_Mul.calls g114 a0 a1 t126 _ ?side1 A36.out).mono ?_); (case side1 => repeat (first | (with_reducible first | exact HI114.out | apply IsS66.alloc | apply IsS66.drewN | apply IsS66.drew) | exact HI114.out)); rintro e w' ⟨rfl, ⟨nd, rfl⟩⟩))
                              go_ret
                              exact ⟨by first | rfl | (simp [errW_none, errW_some] <;> rfl) | (simp [*, errW_none, errW_some] <;> rfl), by repeat (first | (with_reducible first | exact HB.out | apply below_alloc | apply pw_below_drewN | apply below_drew1 | refine below_set ?_ (IsS66.ge HI114.out)) | exact HB.out)⟩
                            · rw [if_neg c35] at H
                              have c35b0 : (t122 == 0) = false := beq_eq_false_iff_ne.mpr c35
                              have c35b1 : (t122 != 0) = true := bne_iff_ne.mpr c35
                              obtain rfl := Option.some.inj H
                              go_wp2
                              go_ret
                              exact ⟨by first | rfl | (simp [errW_none, errW_some] <;> rfl) | (simp [*, errW_none, errW_some] <;> rfl), by repeat (first | (with_reducible first | exact HB.out | apply below_alloc | apply pw_below_drewN | apply below_drew1 | refine below_set ?_ (IsS66.ge HI114.out)) | exact HB.out)⟩
                          · rw [if_neg c34] at H
                            have c34b0 : (t123 == 20) = false := beq_eq_false_iff_ne.mpr c34
                            have c34b1 : (t123 != 20) = true := bne_iff_ne.mpr c34
                            obtain rfl := Option.some.inj H
                            go_wp2
                            go_ret
                            exact ⟨by first | rfl | (simp [errW_none, errW_some] <;> rfl) | (simp [*, errW_none, errW_some] <;> rfl), by repeat (first | (with_reducible first | exact HB.out | apply below_alloc | apply pw_below_drewN | apply below_drew1 | refine below_set ?_ (IsS66.ge HI114.out)) | exact HB.out)⟩
                        · rw [if_neg c33] at H
                          have c33b0 : (a1 == 0) = false := beq_eq_false_iff_ne.mpr c33
                          have c33b1 : (a1 != 0) = true := bne_iff_ne.mpr c33
                          replace H := Option.bind_eq_some_iff.mp H
                          obtain ⟨t127, A370, H⟩ := H
                          replace H : (some (t127 == 0)) = some r := H
                          have A37 := Aside0.mk A370
                          clear A370
                          obtain rfl := Option.some.inj H
                          go_wp2_with (first | (go_at_call 25; (with_reducible refine (gf16_Tables_Mul.calls g114 a0 a1 t127 _ ?side1 A37.out).mono ?_); (case side1 => repeat (first | (with_reducible first | exact HI114.out | apply IsS66.alloc | apply IsS66.drewN | apply IsS66.drew) | exact HI114.out)); rintro e w' ⟨rfl, ⟨nd, rfl⟩⟩))
                          go_ret
                          exact ⟨by first | rfl | (simp [errW_none, errW_some] <;> rfl) | (simp [*, errW_none, errW_some] <;> rfl), by repeat (first | (with_reducible first | exact HB.out | apply below_alloc | apply pw_below_drewN | apply below_drew1 | refine below_set ?_ (IsS66.ge HI114.out)) | exact HB.out)⟩
                    · replace c24 := Bool.eq_false_iff.mpr c24
                      subst c24
                      have H1 : ((gf16_Mul.f kj21 a0 a1).bind fun t128 => ((gf16_Tables_Log.f t128).bind fun bt129 => (if t121 = 0 then (if t123 = 0 then (if bt129.2 = 0 then ((gf16_Tables_Exp.f t120).bind fun t131 => (if t131 = a0 then (if bt129.1 = (Int.tmod (wrap64 (t120 + t122)) 65535) then ((gf16_Tables_Mul.f a0 a1).bind fun t132 => ((gf16_Tables_Exp.f (wrap64 (t120 + t122))).bind fun t133 => (some (t132 == t133)))) else (some false)) else (some false))) else (some false)) else (some false)) else (some false)))) = some r := by rw [if_neg (show ¬ (false = true) by decide)] at H; exact H
                      clear H
                      have H := H1
                      clear H1
                      replace H := Option.bind_eq_some_iff.mp H
                      obtain ⟨t128, A380, H⟩ := H
                      replace H : ((gf16_Tables_Log.f t128).bind fun bt129 => (if t121 = 0 then (if t123 = 0 then (if bt129.2 = 0 then ((gf16_Tables_Exp.f t120).bind fun t131 => (if t131 = a0 then (if bt129.1 = (Int.tmod (wrap64 (t120 + t122)) 65535) then ((gf16_Tables_Mul.f a0 a1).bind fun t132 => ((gf16_Tables_Exp.f (wrap64 (t120 + t122))).bind fun t133 => (some (t132 == t133)))) else (some false)) else (some false))) else (some false)) else (some false)) else (some false))) = some r := H
                      have A38 := Aside0.mk A380
                      clear A380
                      replace H := Option.bind_eq_some_iff.mp H
                      obtain ⟨⟨t129, t130⟩, A390, H⟩ := H
                      replace H : (if t121 = 0 then (if t123 = 0 then (if t130 = 0 then ((gf16_Tables_Exp.f t120).bind fun t131 => (if t131 = a0 then (if t129 = (Int.tmod (wrap64 (t120 + t122)) 65535) then ((gf16_Tables_Mul.f a0 a1).bind fun t132 => ((gf16_Tables_Exp.f (wrap64 (t120 + t122))).bind fun t133 => (some (t132 == t133)))) else (some false)) else (some false))) else (some false)) else (some false)) else (some false)) = some r := H
                      have A39 := Aside0.mk A390
                      clear A390
                      by_cases c40 : t121 = 0
                      · rw [if_pos c40] at H
                        have c40b0 : (t121 == 0) = true := beq_iff_eq.mpr c40
                        have c40b1 : (t121 != 0) = false := bne_eq_false_iff_eq.mpr c40
                        clear c40
                        by_cases c41 : t123 = 0
                        · rw [if_pos c41] at H
                          have c41b0 : (t123 == 0) = true := beq_iff_eq.mpr c41
                          have c41b1 : (t123 != 0) = false := bne_eq_false_iff_eq.mpr c41
                          clear c41
                          by_cases c42 : t130 = 0
                          · rw [if_pos c42] at H
                            have c42b0 : (t130 == 0) = true := beq_iff_eq.mpr c42
                            have c42b1 : (t130 != 0) = false := bne_eq_false_iff_eq.mpr c42
                            clear c42
                            replace H := Option.bind_eq_some_iff.mp H
                            obtain ⟨t131, A430, H⟩ := H
                            replace H : (if t131 = a0 then (if t129 = (Int.tmod (wrap64 (t120 + t122)) 65535) then ((gf16_Tables_Mul.f a0 a1).bind fun t132 => ((gf16_Tables_Exp.f (wrap64 (t120 + t122))).bind fun t133 => (some (t132 == t133)))) else (some false)) else (some false)) = some r := H
                            have A43 := Aside0.mk A430
                            clear A430
                            by_cases c44 : t131 = a0
                            · rw [if_pos c44] at H
                              have c44b0 : (t131 == a0) = true := beq_iff_eq.mpr c44
                              have c44b1 : (t131 != a0) = false := bne_eq_false_iff_eq.mpr c44
                              clear c44
                              by_cases c45 : t129 = (Int.tmod (wrap64 (t120 + t122)) 65535)
                              · rw [if_pos c45] at H
                                have c45b0 : (t129 == (Int.tmod (wrap64 (t120 + t122)) 65535)) = true := beq_iff_eq.mpr c45
                                have c45b1 : (t129 != (Int.tmod (wrap64 (t120 + t122)) 65535)) = false := bne_eq_false_iff_eq.mpr c45
                                clear c45
                                replace H := Option.bind_eq_some_iff.mp H
                                obtain ⟨t132, A460, H⟩ := H
                                replace H : ((gf16_Tables_Exp.f (wrap64 (t120 + t122))).bind fun t133 => (some (t132 == t133))) = some r := H
                                have A46 := Aside0.mk A460
                                clear A460
                                replace H := Option.bind_eq_some_iff.mp H
                                obtain ⟨t133, A470, H⟩ := H
                                replace H : (some (t132 == t133)) = some r := H
                                have A47 := Aside0.mk A470
                                clear A470
                                obtain rfl := Option.some.inj H
                                go_wp2_with (first | ((with_reducible refine gate_callee (f := 18) rfl ?_); refine goesL_ (some 117) rfl rfl Try.func18 (by kernel_rfl) rfl #[.int .u16 a0, .int .u16 a1] rfl (by (try simp only [List.map_toArray, List.map_cons, List.map_nil]); first | done | rfl | (simp only [tb_wrap8]; done) | (simp only [tb_wrap8]; rfl) | (simp only [List.length_drop, List.length_take]; rfl)) ?_; (with_reducible refine (gf16_Mul.calls kj21 a0 a1 t128 _ A38.out).mono ?_); rintro e w' ⟨rfl, ⟨nd, rfl⟩⟩; refine ⟨_, rfl, ?_⟩) | ((with_reducible refine gate_callee (f := 24) rfl ?_); refine goesL_ (some 118) rfl rfl Try.func24 (by kernel_rfl) rfl #[.pointer (some ⟨g114, 0, none⟩), .int .u16 t128] rfl (by (try simp only [List.map_toArray, List.map_cons, List.map_nil]); first | done | rfl | (simp only [tb_wrap8]; done) | (simp only [tb_wrap8]; rfl) | (simp only [List.length_drop, List.length_take]; rfl)) ?_; (with_reducible refine (gf16_Tables_Log.calls g114 t128 t129 t130 _ ?side1 A39.out).mono ?_); (case side1 => repeat (first | (with_reducible first | exact HI114.out | apply IsS66.alloc | apply IsS66.drewN | apply IsS66.drew) | exact HI114.out)); rintro e w' ⟨rfl, ⟨nd, rfl⟩⟩; refine ⟨_, rfl, ?_⟩) | (go_at_call 14; (with_reducible refine (gf16_Tables_Exp.calls g114 t120 t131 _ ?side1 A43.out).mono ?_); (case side1 => repeat (first | (with_reducible first | exact HI114.out | apply IsS66.alloc | apply IsS66.drewN | apply IsS66.drew) | exact HI114.out)); rintro e w' ⟨rfl, ⟨nd, rfl⟩⟩) | (go_at_call 25; (with_reducible refine (gf16_Tables_Mul.calls g114 a0 a1 t132 _ ?side1 A46.out).mono ?_); (case side1 => repeat (first | (with_reducible first | exact HI114.out | apply IsS66.alloc | apply IsS66.drewN | apply IsS66.drew) | exact HI114.out)); rintro e w' ⟨rfl, ⟨nd, rfl⟩⟩) | (go_at_call 14; (with_reducible refine (gf16_Tables_Exp.calls g114 (wrap64 (t120 + t122)) t133 _ ?side1 A47.out).mono ?_); (case side1 => repeat (first | (with_reducible first | exact HI114.out | apply IsS66.alloc | apply IsS66.drewN | apply IsS66.drew) | exact HI114.out)); rintro e w' ⟨rfl, ⟨nd, rfl⟩⟩))
                                go_ret
                                exact ⟨by first | rfl | (simp [errW_none, errW_some] <;> rfl) | (simp [*, errW_none, errW_some] <;> rfl), by repeat (first | (with_reducible first | exact HB.out | apply below_alloc | apply pw_below_drewN | apply below_drew1 | refine below_set ?_ (IsS66.ge HI114.out)) | exact HB.out)⟩
                              · rw [if_neg c45] at H
                                have c45b0 : (t129 == (Int.tmod (wrap64 (t120 + t122)) 65535)) = false := beq_eq_false_iff_ne.mpr c45
                                have c45b1 : (t129 != (Int.tmod (wrap64 (t120 + t122)) 65535)) = true := bne_iff_ne.mpr c45
                                obtain rfl := Option.some.inj H
                                go_wp2_with (first | ((with_reducible refine gate_callee (f := 18) rfl ?_); refine goesL_ (some 117) rfl rfl Try.func18 (by kernel_rfl) rfl #[.int .u16 a0, .int .u16 a1] rfl (by (try simp only [List.map_toArray, List.map_cons, List.map_nil]); first | done | rfl | (simp only [tb_wrap8]; done) | (simp only [tb_wrap8]; rfl) | (simp only [List.length_drop, List.length_take]; rfl)) ?_; (with_reducible refine (gf16_Mul.calls kj21 a0 a1 t128 _ A38.out).mono ?_); rintro e w' ⟨rfl, ⟨nd, rfl⟩⟩; refine ⟨_, rfl, ?_⟩) | ((with_reducible refine gate_callee (f := 24) rfl ?_); refine goesL_ (some 118) rfl rfl Try.func24 (by kernel_rfl) rfl #[.pointer (some ⟨g114, 0, none⟩), .int .u16 t128] rfl (by (try simp only [List.map_toArray, List.map_cons, List.map_nil]); first | done | rfl | (simp only [tb_wrap8]; done) | (simp only [tb_wrap8]; rfl) | (simp only [List.length_drop, List.length_take]; rfl)) ?_; (with_reducible refine (gf16_Tables_Log.calls g114 t128 t129 t130 _ ?side1 A39.out).mono ?_); (case side1 => repeat (first | (with_reducible first | exact HI114.out | apply IsS66.alloc | apply IsS66.drewN | apply IsS66.drew) | exact HI114.out)); rintro e w' ⟨rfl, ⟨nd, rfl⟩⟩; refine ⟨_, rfl, ?_⟩) | (go_at_call 14; (with_reducible refine (gf16_Tables_Exp.calls g114 t120 t131 _ ?side1 A43.out).mono ?_); (case side1 => repeat (first | (with_reducible first | exact HI114.out | apply IsS66.alloc | apply IsS66.drewN | apply IsS66.drew) | exact HI114.out)); rintro e w' ⟨rfl, ⟨nd, rfl⟩⟩))
                                go_ret
                                exact ⟨by first | rfl | (simp [errW_none, errW_some] <;> rfl) | (simp [*, errW_none, errW_some] <;> rfl), by repeat (first | (with_reducible first | exact HB.out | apply below_alloc | apply pw_below_drewN | apply below_drew1 | refine below_set ?_ (IsS66.ge HI114.out)) | exact HB.out)⟩
                            · rw [if_neg c44] at H
                              have c44b0 : (t131 == a0) = false := beq_eq_false_iff_ne.mpr c44
                              have c44b1 : (t131 != a0) = true := bne_iff_ne.mpr c44
                              obtain rfl := Option.some.inj H
                              go_wp2_with (first | ((with_reducible refine gate_callee (f := 18) rfl ?_); refine goesL_ (some 117) rfl rfl Try.func18 (by kernel_rfl) rfl #[.int .u16 a0, .int .u16 a1] rfl (by (try simp only [List.map_toArray, List.map_cons, List.map_nil]); first | done | rfl | (simp only [tb_wrap8]; done) | (simp only [tb_wrap8]; rfl) | (simp only [List.length_drop, List.length_take]; rfl)) ?_; (with_reducible refine (gf16_Mul.calls kj21 a0 a1 t128 _ A38.out).mono ?_); rintro e w' ⟨rfl, ⟨nd, rfl⟩⟩; refine ⟨_, rfl, ?_⟩) | ((with_reducible refine gate_callee (f := 24) rfl ?_); refine goesL_ (some 118) rfl rfl Try.func24 (by kernel_rfl) rfl #[.pointer (some ⟨g114, 0, none⟩), .int .u16 t128] rfl (by (try simp only [List.map_toArray, List.map_cons, List.map_nil]); first | done | rfl | (simp only [tb_wrap8]; done) | (simp only [tb_wrap8]; rfl) | (simp only [List.length_drop, List.length_take]; rfl)) ?_; (with_reducible refine (gf16_Tables_Log.calls g114 t128 t129 t130 _ ?side1 A39.out).mono ?_); (case side1 => repeat (first | (with_reducible first | exact HI114.out | apply IsS66.alloc | apply IsS66.drewN | apply IsS66.drew) | exact HI114.out)); rintro e w' ⟨rfl, ⟨nd, rfl⟩⟩; refine ⟨_, rfl, ?_⟩) | (go_at_call 14; (with_reducible refine (gf16_Tables_Exp.calls g114 t120 t131 _ ?side1 A43.out).mono ?_); (case side1 => repeat (first | (with_reducible first | exact HI114.out | apply IsS66.alloc | apply IsS66.drewN | apply IsS66.drew) | exact HI114.out)); rintro e w' ⟨rfl, ⟨nd, rfl⟩⟩))
                              go_ret
                              exact ⟨by first | rfl | (simp [errW_none, errW_some] <;> rfl) | (simp [*, errW_none, errW_some] <;> rfl), by repeat (first | (with_reducible first | exact HB.out | apply below_alloc | apply pw_below_drewN | apply below_drew1 | refine below_set ?_ (IsS66.ge HI114.out)) | exact HB.out)⟩
                          · rw [if_neg c42] at H
                            have c42b0 : (t130 == 0) = false := beq_eq_false_iff_ne.mpr c42
                            have c42b1 : (t130 != 0) = true := bne_iff_ne.mpr c42
                            obtain rfl := Option.some.inj H
                            go_wp2_with (first | ((with_reducible refine gate_callee (f := 18) rfl ?_); refine goesL_ (some 117) rfl rfl Try.func18 (by kernel_rfl) rfl #[.int .u16 a0, .int .u16 a1] rfl (by (try simp only [List.map_toArray, List.map_cons, List.map_nil]); first | done | rfl | (simp only [tb_wrap8]; done) | (simp only [tb_wrap8]; rfl) | (simp only [List.length_drop, List.length_take]; rfl)) ?_; (with_reducible refine (gf16_Mul.calls kj21 a0 a1 t128 _ A38.out).mono ?_); rintro e w' ⟨rfl, ⟨nd, rfl⟩⟩; refine ⟨_, rfl, ?_⟩) | ((with_reducible refine gate_callee (f := 24) rfl ?_); refine goesL_ (some 118) rfl rfl Try.func24 (by kernel_rfl) rfl #[.pointer (some ⟨g114, 0, none⟩), .int .u16 t128] rfl (by (try simp only [List.map_toArray, List.map_cons, List.map_nil]); first | done | rfl | (simp only [tb_wrap8]; done) | (simp only [tb_wrap8]; rfl) | (simp only [List.length_drop, List.length_take]; rfl)) ?_; (with_reducible refine (gf16_Tables_Log.calls g114 t128 t129 t130 _ ?side1 A39.out).mono ?_); (case side1 => repeat (first | (with_reducible first | exact HI114.out | apply IsS66.alloc | apply IsS66.drewN | apply IsS66.drew) | exact HI114.out)); rintro e w' ⟨rfl, ⟨nd, rfl⟩⟩; refine ⟨_, rfl, ?_⟩))
                            go_ret
                            exact ⟨by first | rfl | (simp [errW_none, errW_some] <;> rfl) | (simp [*, errW_none, errW_some] <;> rfl), by repeat (first | (with_reducible first | exact HB.out | apply below_alloc | apply pw_below_drewN | apply below_drew1 | refine below_set ?_ (IsS66.ge HI114.out)) | exact HB.out)⟩
                        · rw [if_neg c41] at H
                          have c41b0 : (t123 == 0) = false := beq_eq_false_iff_ne.mpr c41
                          have c41b1 : (t123 != 0) = true := bne_iff_ne.mpr c41
                          obtain rfl := Option.some.inj H
                          go_wp2_with (first | ((with_reducible refine gate_callee (f := 18) rfl ?_); refine goesL_ (some 117) rfl rfl Try.func18 (by kernel_rfl) rfl #[.int .u16 a0, .int .u16 a1] rfl (by (try simp only [List.map_toArray, List.map_cons, List.map_nil]); first | done | rfl | (simp only [tb_wrap8]; done) | (simp only [tb_wrap8]; rfl) | (simp only [List.length_drop, List.length_take]; rfl)) ?_; (with_reducible refine (gf16_Mul.calls kj21 a0 a1 t128 _ A38.out).mono ?_); rintro e w' ⟨rfl, ⟨nd, rfl⟩⟩; refine ⟨_, rfl, ?_⟩) | ((with_reducible refine gate_callee (f := 24) rfl ?_); refine goesL_ (some 118) rfl rfl Try.func24 (by kernel_rfl) rfl #[.pointer (some ⟨g114, 0, none⟩), .int .u16 t128] rfl (by (try simp only [List.map_toArray, List.map_cons, List.map_nil]); first | done | rfl | (simp only [tb_wrap8]; done) | (simp only [tb_wrap8]; rfl) | (simp only [List.length_drop, List.length_take]; rfl)) ?_; (with_reducible refine (gf16_Tables_Log.calls g114 t128 t129 t130 _ ?side1 A39.out).mono ?_); (case side1 => repeat (first | (with_reducible first | exact HI114.out | apply IsS66.alloc | apply IsS66.drewN | apply IsS66.drew) | exact HI114.out)); rintro e w' ⟨rfl, ⟨nd, rfl⟩⟩; refine ⟨_, rfl, ?_⟩))
                          go_ret
                          exact ⟨by first | rfl | (simp [errW_none, errW_some] <;> rfl) | (simp [*, errW_none, errW_some] <;> rfl), by repeat (first | (with_reducible first | exact HB.out | apply below_alloc | apply pw_below_drewN | apply below_drew1 | refine below_set ?_ (IsS66.ge HI114.out)) | exact HB.out)⟩
                      · rw [if_neg c40] at H
                        have c40b0 : (t121 == 0) = false := beq_eq_false_iff_ne.mpr c40
                        have c40b1 : (t121 != 0) = true := bne_iff_ne.mpr c40
                        obtain rfl := Option.some.inj H
                        go_wp2_with (first | ((with_reducible refine gate_callee (f := 18) rfl ?_); refine goesL_ (some 117) rfl rfl Try.func18 (by kernel_rfl) rfl #[.int .u16 a0, .int .u16 a1] rfl (by (try simp only [List.map_toArray, List.map_cons, List.map_nil]); first | done | rfl | (simp only [tb_wrap8]; done) | (simp only [tb_wrap8]; rfl) | (simp only [List.length_drop, List.length_take]; rfl)) ?_; (with_reducible refine (gf16_Mul.calls kj21 a0 a1 t128 _ A38.out).mono ?_); rintro e w' ⟨rfl, ⟨nd, rfl⟩⟩; refine ⟨_, rfl, ?_⟩) | ((with_reducible refine gate_callee (f := 24) rfl ?_); refine goesL_ (some 118) rfl rfl Try.func24 (by kernel_rfl) rfl #[.pointer (some ⟨g114, 0, none⟩), .int .u16 t128] rfl (by (try simp only [List.map_toArray, List.map_cons, List.map_nil]); first | done | rfl | (simp only [tb_wrap8]; done) | (simp only [tb_wrap8]; rfl) | (simp only [List.length_drop, List.length_take]; rfl)) ?_; (with_reducible refine (gf16_Tables_Log.calls g114 t128 t129 t130 _ ?side1 A39.out).mono ?_); (case side1 => repeat (first | (with_reducible first | exact HI114.out | apply IsS66.alloc | apply IsS66.drewN | apply IsS66.drew) | exact HI114.out)); rintro e w' ⟨rfl, ⟨nd, rfl⟩⟩; refine ⟨_, rfl, ?_⟩))
                        go_ret
                        exact ⟨by first | rfl | (simp [errW_none, errW_some] <;> rfl) | (simp [*, errW_none, errW_some] <;> rfl), by repeat (first | (with_reducible first | exact HB.out | apply below_alloc | apply pw_below_drewN | apply below_drew1 | refine below_set ?_ (IsS66.ge HI114.out)) | exact HB.out)⟩
  · rw [if_neg c6] at H
    have c6b0 : (t115 == 2) = false := beq_eq_false_iff_ne.mpr c6
    have c6b1 : (t115 != 2) = true := bne_iff_ne.mpr c6
    obtain rfl := Option.some.inj H
    go_enter Try.func6, Try.ntmps6
    go_wp2_with (first | ((with_reducible refine gate_callee (f := 13) rfl ?_); refine goesL_ (some 17) rfl rfl Try.func13 (by kernel_rfl) rfl #[] rfl (by (try simp only [List.map_toArray, List.map_cons, List.map_nil]); first | done | rfl | (simp only [tb_wrap8]; done) | (simp only [tb_wrap8]; rfl) | (simp only [List.length_drop, List.length_take]; rfl)) ?_; (with_reducible refine (gf16_New.calls   w _ ?side1 A4.out).mono ?_); (case side1 => repeat (first | (with_reducible first | exact HB.out | apply below_alloc | apply pw_below_drewN | apply below_drew1) | exact HB.out)); rintro e w48 ⟨g114, rfl, hi, hb, hb2⟩; refine ⟨_, rfl, ?_⟩; have n0_ := Aside0.mk (hb); have n1_ := Aside0.mk (hi); clear HB; have HB := n0_; have HI114 := n1_; clear n0_ n1_; (try clear hb); (try clear hb2); (try clear hk); (try clear hi)) | (go_at_call 14; (with_reducible refine (gf16_Tables_Exp.calls g114 1 t115 _ ?side1 A5.out).mono ?_); (case side1 => repeat (first | (with_reducible first | exact HI114.out | apply IsS66.alloc | apply IsS66.drewN | apply IsS66.drew) | exact HI114.out)); rintro e w' ⟨rfl, ⟨nd, rfl⟩⟩))
    go_ret
    exact ⟨by first | rfl | (simp [errW_none, errW_some] <;> rfl) | (simp [*, errW_none, errW_some] <;> rfl), by repeat (first | (with_reducible first | exact HB.out | apply below_alloc | apply pw_below_drewN | apply below_drew1 | refine below_set ?_ (IsS66.ge HI114.out)) | exact HB.out)⟩

/-- THE ONE PURE STATEMENT of culletlaw03_Gf16Logs: yours. -/
def culletlaw03_Gf16Logs.Pure : Prop := ∀ (a0 : Int) (a1 : Int) (a2 : Int), (Lit.int .u16 a0).wf = true → (Lit.int .u16 a1).wf = true → (Lit.int .i64 a2).wf = true → ∃ k, culletlaw03_Gf16Logs.f k a0 a1 a2 = some true
theorem culletlaw03_Gf16Logs.walk (P : culletlaw03_Gf16Logs.Pure) (a0 : Int) (a1 : Int) (a2 : Int) (w : World) (w0 : (Lit.int .u16 a0).wf = true) (w1 : (Lit.int .u16 a1).wf = true) (w2 : (Lit.int .i64 a2).wf = true) :
    Calls Try.prog 6 #[.int .u16 a0, .int .u16 a1, .int .i64 a2] w fun e w' => e = .returned (.bool true) ∧ Below w.heap.size w w' := by
  obtain ⟨k, h⟩ := P a0 a1 a2 w0 w1 w2
  refine (culletlaw03_Gf16Logs.calls k a0 a1 a2 true w h).mono ?_
  rintro e w' ⟨rfl, hd⟩
  exact ⟨rfl, hd⟩

end Go.Proofs.Ytedaifgbnojojaa.Q
