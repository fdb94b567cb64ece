-- Printed for this claim by mp.py, a program of its prover, through the kit's print. Lean checks it.
import Derived.Test.YtedaifgbnojojaaQx0
import Derived.Test.YtedaifgbnojojaaQx1
import Derived.Test.YtedaifgbnojojaaQx2
import Derived.Test.YtedaifgbnojojaaQx6
namespace Go.Proofs.Ytedaifgbnojojaa.Q
open Go.RowKit Go.Proofs.YtedaifgbnojojaaW.PrintWords Go.Proofs.YtedaifgbnojojaaW.PrintLast Go.Proofs.YtedaifgbnojojaaW.PrintMore
attribute [local go_sem] max2_int min2_int max_two min_two max_three min_three max_four min_four   -- for this text's walks alone
set_option linter.unusedVariables false
set_option linter.unusedSimpArgs false

/-! ### cullettop_logs16: function 40 -/
def cullettop_logs16.j0 : Nat → Int → Int → Int → Int → Int → Int → Bool → Option (Bool)
  | 0, _, _, _, _, _, _, _ => none
  | k + 1, x1, x2, x7, x8, x9, x10, x28 => if x28 = true then (if x1 = 0 then (if x8 = 20 then (if x2 = 0 then (some (x10 == 20)) else (some true)) else (some false)) else (if x2 = 0 then (some (x10 == 20)) else (some true))) else (if x8 = 0 then (if x10 = 0 then ((gf16_Tables_Exp.f (wrap64 (x7 + x9))).bind fun t159 => ((cullettop_mul16.f k x1 x2).bind fun t160 => (if t159 = t160 then ((gf16_Tables_Exp.f (wrap64 (x7 - x9))).bind fun t161 => ((cullettop_inv16.f k x2).bind fun t162 => ((cullettop_mul16.f k x1 t162).bind fun t163 => (some (t161 == t163))))) else (some false)))) else (some false)) else (some false))
def cullettop_logs16.f (k : Nat)  (a1 : Int) (a2 : Int) : Option (Bool) := (gf16_Tables_Log.f a1).bind fun bt155 => ((gf16_Tables_Log.f a2).bind fun bt157 => (if a1 = 0 then (cullettop_logs16.j0 k a1 a2 bt155.1 bt155.2 bt157.1 bt157.2 true) else (cullettop_logs16.j0 k a1 a2 bt155.1 bt155.2 bt157.1 bt157.2 (a2 == 0))))
theorem cullettop_logs16.mono_l : ∀ k, (∀ y0 y1 y2 y3 y4 y5 y6, LeO (cullettop_logs16.j0 k y0 y1 y2 y3 y4 y5 y6) (cullettop_logs16.j0 (k + 1) y0 y1 y2 y3 y4 y5 y6))
  | 0 => fun _ _ _ _ _ _ _ r h => by simp [cullettop_logs16.j0] at h
  | k + 1 => by
    have ih0 := cullettop_logs16.mono_l k
    · intro y0 y1 y2 y3 y4 y5 y6
      unfold cullettop_logs16.j0
      repeat' first
      | (with_reducible exact ih0 _ _ _ _ _ _ _)
      | (with_reducible exact cullettop_inv16.mono _ _)
      | (with_reducible exact cullettop_mul16.mono _ _ _)
      | (with_reducible exact LeO.refl _)
      | (with_reducible exact LeO.none _)
      | (with_reducible refine LeO.ite ?_ ?_)
      | (with_reducible refine LeO.bind ?_ (fun _ => ?_))
      | exact ih0 _ _ _ _ _ _ _
      | exact cullettop_inv16.mono _ _
      | exact cullettop_mul16.mono _ _ _
      | exact LeO.none _
      | refine LeO.ite ?_ ?_
      | refine LeO.bind ?_ (fun _ => ?_)
theorem cullettop_logs16.mono : ∀ a0 a1 k, LeO (cullettop_logs16.f k a0 a1) (cullettop_logs16.f (k + 1) a0 a1) := by
  intro a0 a1 k
  have ih0 := cullettop_logs16.mono_l k
  unfold cullettop_logs16.f
  repeat' first
      | (with_reducible exact ih0 _ _ _ _ _ _ _)
      | (with_reducible exact cullettop_inv16.mono _ _)
      | (with_reducible exact cullettop_mul16.mono _ _ _)
      | (with_reducible exact LeO.refl _)
      | (with_reducible exact LeO.none _)
      | (with_reducible refine LeO.ite ?_ ?_)
      | (with_reducible refine LeO.bind ?_ (fun _ => ?_))
      | exact ih0 _ _ _ _ _ _ _
      | exact cullettop_inv16.mono _ _
      | exact cullettop_mul16.mono _ _ _
      | exact LeO.none _
      | refine LeO.ite ?_ ?_
      | refine LeO.bind ?_ (fun _ => ?_)
set_option maxHeartbeats 8000000 in
set_option maxRecDepth 100000 in
theorem cullettop_logs16.calls (k : Nat) (g : Nat)  (a1 : Int) (a2 : Int) (r : Bool) (w : World) (hI : IsS66 w w g) (h : cullettop_logs16.f k a1 a2 = some r) :
    Calls Try.prog 40 #[.pointer (some ⟨g, 0, none⟩), .int .u16 a1, .int .u16 a2] w fun e w' => e = .returned (.bool r) ∧ Drawn0 w w' := by
  have HI0 := Aside0.mk hI
  clear hI
  have H : ((gf16_Tables_Log.f a1).bind fun bt155 => ((gf16_Tables_Log.f a2).bind fun bt157 => (if a1 = 0 then (cullettop_logs16.j0 k a1 a2 bt155.1 bt155.2 bt157.1 bt157.2 true) else (cullettop_logs16.j0 k a1 a2 bt155.1 bt155.2 bt157.1 bt157.2 (a2 == 0))))) = some r := h
  clear h
  replace H := Option.bind_eq_some_iff.mp H
  obtain ⟨⟨t155, t156⟩, A40, H⟩ := H
  replace H : ((gf16_Tables_Log.f a2).bind fun bt157 => (if a1 = 0 then (cullettop_logs16.j0 k a1 a2 t155 t156 bt157.1 bt157.2 true) else (cullettop_logs16.j0 k a1 a2 t155 t156 bt157.1 bt157.2 (a2 == 0)))) = some r := H
  have A4 := Aside0.mk A40
  clear A40
  replace H := Option.bind_eq_some_iff.mp H
  obtain ⟨⟨t157, t158⟩, A50, H⟩ := H
  replace H : (if a1 = 0 then (cullettop_logs16.j0 k a1 a2 t155 t156 t157 t158 true) else (cullettop_logs16.j0 k a1 a2 t155 t156 t157 t158 (a2 == 0))) = some r := H
  have A5 := Aside0.mk A50
  clear A50
  have HC6 := Aside0.mk H
  clear H
  go_enter Try.func40, Try.ntmps40
  go_upto_region 3 with (first | ((with_reducible refine gate_callee (f := 24) rfl ?_); refine goesL_ (some 14) rfl rfl Try.func24 (by kernel_rfl) rfl #[.pointer (some ⟨g, 0, none⟩), .int .u16 a1] rfl (by (try simp only [List.map_toArray, List.map_cons, List.map_nil]); first | done | rfl | (simp only [tb_wrap8]; done) | (simp only [tb_wrap8]; rfl) | (simp only [List.length_drop, List.length_take]; rfl)) ?_; (with_reducible refine (gf16_Tables_Log.calls g a1 t155 t156 _ ?side1 A4.out).mono ?_); (case side1 => repeat (first | (with_reducible first | exact HI0.out | apply IsS66.alloc | apply IsS66.drewN | apply IsS66.drew) | exact HI0.out)); rintro e w' ⟨rfl, ⟨nd, rfl⟩⟩; refine ⟨_, rfl, ?_⟩) | ((with_reducible refine gate_callee (f := 24) rfl ?_); refine goesL_ (some 20) rfl rfl Try.func24 (by kernel_rfl) rfl #[.pointer (some ⟨g, 0, none⟩), .int .u16 a2] rfl (by (try simp only [List.map_toArray, List.map_cons, List.map_nil]); first | done | rfl | (simp only [tb_wrap8]; done) | (simp only [tb_wrap8]; rfl) | (simp only [List.length_drop, List.length_take]; rfl)) ?_; (with_reducible refine (gf16_Tables_Log.calls g a2 t157 t158 _ ?side1 A5.out).mono ?_); (case side1 => repeat (first | (with_reducible first | exact HI0.out | apply IsS66.alloc | apply IsS66.drewN | apply IsS66.drew) | exact HI0.out)); rintro e w' ⟨rfl, ⟨nd, rfl⟩⟩; refine ⟨_, rfl, ?_⟩))
  (try simp only [Act.put, List.setIfInBounds_toArray, List.set_cons_zero, List.set_cons_succ])
  go_cut [28] (fun v28 wc => ∃ (kq : Nat) (x28_5 : Bool), v28 = .bool x28_5 ∧ Aside0 (cullettop_logs16.j0 kq a1 a2 t155 t156 t157 t158 x28_5 = some r) ∧ Aside0 (kq ≤ k) ∧ Aside0 (IsS66 w wc g ) ∧ Drawn0 w wc)
  case first =>
    have H := HC6.out
    clear HC6
    by_cases c7 : a1 = 0
    · rw [if_pos c7] at H
      have c7b0 : (a1 == 0) = true := beq_iff_eq.mpr c7
      have c7b1 : (a1 != 0) = false := bne_eq_false_iff_eq.mpr c7
      clear c7
      (first | rw [c7b0] | (simp only [i64_w, i32_w]; rw [c7b0]) | skip)
      have H' := Aside0.mk H
      clear H
      go_wp2
      go_meet
      case rel => exact ⟨_, (true), (by first | rfl | (simp; done) | (simp [*]; done)), H', ⟨by first | omega | exact Nat.le_refl _⟩, ⟨by repeat (first | (with_reducible first | exact HI0.out | apply IsS66.alloc | apply IsS66.drewN | apply IsS66.drew) | exact HI0.out)⟩, by repeat (first | exact Drawn0.refl _ | apply Drawn0.step)⟩
    · rw [if_neg c7] at H
      have c7b0 : (a1 == 0) = false := beq_eq_false_iff_ne.mpr c7
      have c7b1 : (a1 != 0) = true := bne_iff_ne.mpr c7
      (first | rw [c7b0] | (simp only [i64_w, i32_w]; rw [c7b0]) | skip)
      have H' := Aside0.mk H
      clear H
      go_wp2
      go_meet
      case rel => exact ⟨_, ((a2 == 0)), (by first | rfl | (simp; done) | (simp [*]; done)), H', ⟨by first | omega | exact Nat.le_refl _⟩, ⟨by repeat (first | (with_reducible first | exact HI0.out | apply IsS66.alloc | apply IsS66.drewN | apply IsS66.drew) | exact HI0.out)⟩, by repeat (first | exact Drawn0.refl _ | apply Drawn0.step)⟩
  case rest =>
    clear HC6
    try clear c2
    try clear p2
    try clear c4
    try clear c7
    try clear c7b0
    try clear c7b1
    obtain ⟨kq, x28_5, rfl, HA, HJ5, HI0, ⟨mc5, rfl⟩⟩ := hcut
    cases kq with
    | zero => exact absurd HA.out (by simp [cullettop_logs16.j0])
    | succ kj5 =>
      have H := HA.out
      clear HA
      simp only [cullettop_logs16.j0] at H
      by_cases c8 : x28_5 = true
      · subst c8
        have H1 : (if a1 = 0 then (if t156 = 20 then (if a2 = 0 then (some (t158 == 20)) else (some true)) else (some false)) else (if a2 = 0 then (some (t158 == 20)) else (some true))) = some r := by rw [if_pos rfl] at H; exact H
        clear H
        have H := H1
        clear H1
        by_cases c9 : a1 = 0
        · rw [if_pos c9] at H
          have c9b0 : (a1 == 0) = true := beq_iff_eq.mpr c9
          have c9b1 : (a1 != 0) = false := bne_eq_false_iff_eq.mpr c9
          clear c9
          by_cases c10 : t156 = 20
          · rw [if_pos c10] at H
            have c10b0 : (t156 == 20) = true := beq_iff_eq.mpr c10
            have c10b1 : (t156 != 20) = false := bne_eq_false_iff_eq.mpr c10
            clear c10
            by_cases c11 : a2 = 0
            · rw [if_pos c11] at H
              have c11b0 : (a2 == 0) = true := beq_iff_eq.mpr c11
              have c11b1 : (a2 != 0) = false := bne_eq_false_iff_eq.mpr c11
              clear c11
              obtain rfl := Option.some.inj H
              go_wp2
              go_ret
              exact ⟨by first | rfl | (simp; done) | (simp [*]; done), by repeat (first | exact Drawn0.refl _ | apply Drawn0.step)⟩
            · rw [if_neg c11] at H
              have c11b0 : (a2 == 0) = false := beq_eq_false_iff_ne.mpr c11
              have c11b1 : (a2 != 0) = true := bne_iff_ne.mpr c11
              obtain rfl := Option.some.inj H
              go_wp2
              go_ret
              exact ⟨by first | rfl | (simp; done) | (simp [*]; done), by repeat (first | exact Drawn0.refl _ | apply Drawn0.step)⟩
          · rw [if_neg c10] at H
            have c10b0 : (t156 == 20) = false := beq_eq_false_iff_ne.mpr c10
            have c10b1 : (t156 != 20) = true := bne_iff_ne.mpr c10
            obtain rfl := Option.some.inj H
            go_wp2
            go_ret
            exact ⟨by first | rfl | (simp; done) | (simp [*]; done), by repeat (first | exact Drawn0.refl _ | apply Drawn0.step)⟩
        · rw [if_neg c9] at H
          have c9b0 : (a1 == 0) = false := beq_eq_false_iff_ne.mpr c9
          have c9b1 : (a1 != 0) = true := bne_iff_ne.mpr c9
          by_cases c12 : a2 = 0
          · rw [if_pos c12] at H
            have c12b0 : (a2 == 0) = true := beq_iff_eq.mpr c12
            have c12b1 : (a2 != 0) = false := bne_eq_false_iff_eq.mpr c12
            clear c12
            obtain rfl := Option.some.inj H
            go_wp2
            go_ret
            exact ⟨by first | rfl | (simp; done) | (simp [*]; done), by repeat (first | exact Drawn0.refl _ | apply Drawn0.step)⟩
          · rw [if_neg c12] at H
            have c12b0 : (a2 == 0) = false := beq_eq_false_iff_ne.mpr c12
            have c12b1 : (a2 != 0) = true := bne_iff_ne.mpr c12
            obtain rfl := Option.some.inj H
            go_wp2
            go_ret
            exact ⟨by first | rfl | (simp; done) | (simp [*]; done), by repeat (first | exact Drawn0.refl _ | apply Drawn0.step)⟩
      · replace c8 := Bool.eq_false_iff.mpr c8
        subst c8
        have H1 : (if t156 = 0 then (if t158 = 0 then ((gf16_Tables_Exp.f (wrap64 (t155 + t157))).bind fun t159 => ((cullettop_mul16.f kj5 a1 a2).bind fun t160 => (if t159 = t160 then ((gf16_Tables_Exp.f (wrap64 (t155 - t157))).bind fun t161 => ((cullettop_inv16.f kj5 a2).bind fun t162 => ((cullettop_mul16.f kj5 a1 t162).bind fun t163 => (some (t161 == t163))))) else (some false)))) else (some false)) else (some false)) = some r := by rw [if_neg (show ¬ (false = true) by decide)] at H; exact H
        clear H
        have H := H1
        clear H1
        by_cases c13 : t156 = 0
        · rw [if_pos c13] at H
          have c13b0 : (t156 == 0) = true := beq_iff_eq.mpr c13
          have c13b1 : (t156 != 0) = false := bne_eq_false_iff_eq.mpr c13
          clear c13
          by_cases c14 : t158 = 0
          · rw [if_pos c14] at H
            have c14b0 : (t158 == 0) = true := beq_iff_eq.mpr c14
            have c14b1 : (t158 != 0) = false := bne_eq_false_iff_eq.mpr c14
            clear c14
            replace H := Option.bind_eq_some_iff.mp H
            obtain ⟨t159, A150, H⟩ := H
            replace H : ((cullettop_mul16.f kj5 a1 a2).bind fun t160 => (if t159 = t160 then ((gf16_Tables_Exp.f (wrap64 (t155 - t157))).bind fun t161 => ((cullettop_inv16.f kj5 a2).bind fun t162 => ((cullettop_mul16.f kj5 a1 t162).bind fun t163 => (some (t161 == t163))))) else (some false))) = some r := H
            have A15 := Aside0.mk A150
            clear A150
            replace H := Option.bind_eq_some_iff.mp H
            obtain ⟨t160, A160, H⟩ := H
            replace H : (if t159 = t160 then ((gf16_Tables_Exp.f (wrap64 (t155 - t157))).bind fun t161 => ((cullettop_inv16.f kj5 a2).bind fun t162 => ((cullettop_mul16.f kj5 a1 t162).bind fun t163 => (some (t161 == t163))))) else (some false)) = some r := H
            have A16 := Aside0.mk A160
            clear A160
            by_cases c17 : t159 = t160
            · rw [if_pos c17] at H
              have c17b0 : (t159 == t160) = true := beq_iff_eq.mpr c17
              have c17b1 : (t159 != t160) = false := bne_eq_false_iff_eq.mpr c17
              clear c17
              replace H := Option.bind_eq_some_iff.mp H
              obtain ⟨t161, A180, H⟩ := H
              replace H : ((cullettop_inv16.f kj5 a2).bind fun t162 => ((cullettop_mul16.f kj5 a1 t162).bind fun t163 => (some (t161 == t163)))) = some r := H
              have A18 := Aside0.mk A180
              clear A180
              replace H := Option.bind_eq_some_iff.mp H
              obtain ⟨t162, A190, H⟩ := H
              replace H : ((cullettop_mul16.f kj5 a1 t162).bind fun t163 => (some (t161 == t163))) = some r := H
              have A19 := Aside0.mk A190
              clear A190
              replace H := Option.bind_eq_some_iff.mp H
              obtain ⟨t163, A200, H⟩ := H
              replace H : (some (t161 == t163)) = some r := H
              have A20 := Aside0.mk A200
              clear A200
              obtain rfl := Option.some.inj H
              go_wp2_with (first | (go_at_call 14; (with_reducible refine (gf16_Tables_Exp.calls g (wrap64 (t155 + t157)) t159 _ ?side1 A15.out).mono ?_); (case side1 => repeat (first | (with_reducible first | exact HI0.out | apply IsS66.alloc | apply IsS66.drewN | apply IsS66.drew) | exact HI0.out)); rintro e w' ⟨rfl, ⟨nd, rfl⟩⟩) | (go_at_call 68; (with_reducible refine (cullettop_mul16.calls kj5 a1 a2 t160 _ A16.out).mono ?_); rintro e w' ⟨rfl, ⟨nd, rfl⟩⟩) | (go_at_call 14; (with_reducible refine (gf16_Tables_Exp.calls g (wrap64 (t155 - t157)) t161 _ ?side1 A18.out).mono ?_); (case side1 => repeat (first | (with_reducible first | exact HI0.out | apply IsS66.alloc | apply IsS66.drewN | apply IsS66.drew) | exact HI0.out)); rintro e w' ⟨rfl, ⟨nd, rfl⟩⟩) | (go_at_call 69; (with_reducible refine (cullettop_inv16.calls kj5 a2 t162 _ A19.out).mono ?_); rintro e w' ⟨rfl, ⟨nd, rfl⟩⟩) | (go_at_call 68; (with_reducible refine (cullettop_mul16.calls kj5 a1 t162 t163 _ A20.out).mono ?_); rintro e w' ⟨rfl, ⟨nd, rfl⟩⟩))
              go_ret
              exact ⟨by first | rfl | (simp; done) | (simp [*]; done), by repeat (first | exact Drawn0.refl _ | apply Drawn0.step)⟩
            · rw [if_neg c17] at H
              have c17b0 : (t159 == t160) = false := beq_eq_false_iff_ne.mpr c17
              have c17b1 : (t159 != t160) = true := bne_iff_ne.mpr c17
              obtain rfl := Option.some.inj H
              go_wp2_with (first | (go_at_call 14; (with_reducible refine (gf16_Tables_Exp.calls g (wrap64 (t155 + t157)) t159 _ ?side1 A15.out).mono ?_); (case side1 => repeat (first | (with_reducible first | exact HI0.out | apply IsS66.alloc | apply IsS66.drewN | apply IsS66.drew) | exact HI0.out)); rintro e w' ⟨rfl, ⟨nd, rfl⟩⟩) | (go_at_call 68; (with_reducible refine (cullettop_mul16.calls kj5 a1 a2 t160 _ A16.out).mono ?_); rintro e w' ⟨rfl, ⟨nd, rfl⟩⟩))
              go_ret
              exact ⟨by first | rfl | (simp; done) | (simp [*]; done), by repeat (first | exact Drawn0.refl _ | apply Drawn0.step)⟩
          · rw [if_neg c14] at H
            have c14b0 : (t158 == 0) = false := beq_eq_false_iff_ne.mpr c14
            have c14b1 : (t158 != 0) = true := bne_iff_ne.mpr c14
            obtain rfl := Option.some.inj H
            go_wp2
            go_ret
            exact ⟨by first | rfl | (simp; done) | (simp [*]; done), by repeat (first | exact Drawn0.refl _ | apply Drawn0.step)⟩
        · rw [if_neg c13] at H
          have c13b0 : (t156 == 0) = false := beq_eq_false_iff_ne.mpr c13
          have c13b1 : (t156 != 0) = true := bne_iff_ne.mpr c13
          obtain rfl := Option.some.inj H
          go_wp2
          go_ret
          exact ⟨by first | rfl | (simp; done) | (simp [*]; done), by repeat (first | exact Drawn0.refl _ | apply Drawn0.step)⟩

end Go.Proofs.Ytedaifgbnojojaa.Q
