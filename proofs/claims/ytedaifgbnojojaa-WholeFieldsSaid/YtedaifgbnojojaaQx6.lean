-- Printed for this claim by mp.py, a program of its prover, through the kit's print. Lean checks it.
import Derived.Test.YtedaifgbnojojaaQx0
import Derived.Test.YtedaifgbnojojaaQx4
import Derived.Test.YtedaifgbnojojaaQx5
namespace Go.Proofs.Ytedaifgbnojojaa.Q
open Go.RowKit Go.Proofs.YtedaifgbnojojaaW.PrintWords Go.Proofs.YtedaifgbnojojaaW.PrintLast Go.Proofs.YtedaifgbnojojaaW.PrintMore
attribute [local go_sem] max2_int min2_int max_two min_two max_three min_three max_four min_four   -- for this text's walks alone
set_option linter.unusedVariables false
set_option linter.unusedSimpArgs false

/-! ### cullettop_logs8: function 39 -/
def cullettop_logs8.j0 : Nat → Int → Int → Int → Int → Int → Int → Bool → Option (Bool)
  | 0, _, _, _, _, _, _, _ => none
  | k + 1, x1, x2, x7, x8, x9, x10, x28 => if x28 = true then (if x1 = 0 then (if x8 = 20 then (if x2 = 0 then (some (x10 == 20)) else (some true)) else (some false)) else (if x2 = 0 then (some (x10 == 20)) else (some true))) else (if x8 = 0 then (if x10 = 0 then ((gf8_Tables_Exp.f (wrap64 (x7 + x9))).bind fun t148 => ((cullettop_mul8.f k x1 x2).bind fun t149 => (if t148 = t149 then ((gf8_Tables_Exp.f (wrap64 (x7 - x9))).bind fun t150 => ((cullettop_inv8.f k x2).bind fun t151 => ((cullettop_mul8.f k x1 t151).bind fun t152 => (some (t150 == t152))))) else (some false)))) else (some false)) else (some false))
def cullettop_logs8.f (k : Nat)  (a1 : Int) (a2 : Int) : Option (Bool) := (gf8_Tables_Log.f a1).bind fun bt144 => ((gf8_Tables_Log.f a2).bind fun bt146 => (if a1 = 0 then (cullettop_logs8.j0 k a1 a2 bt144.1 bt144.2 bt146.1 bt146.2 true) else (cullettop_logs8.j0 k a1 a2 bt144.1 bt144.2 bt146.1 bt146.2 (a2 == 0))))
theorem cullettop_logs8.mono_l : ∀ k, (∀ y0 y1 y2 y3 y4 y5 y6, LeO (cullettop_logs8.j0 k y0 y1 y2 y3 y4 y5 y6) (cullettop_logs8.j0 (k + 1) y0 y1 y2 y3 y4 y5 y6))
  | 0 => fun _ _ _ _ _ _ _ r h => by simp [cullettop_logs8.j0] at h
  | k + 1 => by
    have ih0 := cullettop_logs8.mono_l k
    · intro y0 y1 y2 y3 y4 y5 y6
      unfold cullettop_logs8.j0
      repeat' first
      | (with_reducible exact ih0 _ _ _ _ _ _ _)
      | (with_reducible exact cullettop_inv8.mono _ _)
      | (with_reducible exact cullettop_mul8.mono _ _ _)
      | (with_reducible exact LeO.refl _)
      | (with_reducible exact LeO.none _)
      | (with_reducible refine LeO.ite ?_ ?_)
      | (with_reducible refine LeO.bind ?_ (fun _ => ?_))
      | exact ih0 _ _ _ _ _ _ _
      | exact cullettop_inv8.mono _ _
      | exact cullettop_mul8.mono _ _ _
      | exact LeO.none _
      | refine LeO.ite ?_ ?_
      | refine LeO.bind ?_ (fun _ => ?_)
theorem cullettop_logs8.mono : ∀ a0 a1 k, LeO (cullettop_logs8.f k a0 a1) (cullettop_logs8.f (k + 1) a0 a1) := by
  intro a0 a1 k
  have ih0 := cullettop_logs8.mono_l k
  unfold cullettop_logs8.f
  repeat' first
      | (with_reducible exact ih0 _ _ _ _ _ _ _)
      | (with_reducible exact cullettop_inv8.mono _ _)
      | (with_reducible exact cullettop_mul8.mono _ _ _)
      | (with_reducible exact LeO.refl _)
      | (with_reducible exact LeO.none _)
      | (with_reducible refine LeO.ite ?_ ?_)
      | (with_reducible refine LeO.bind ?_ (fun _ => ?_))
      | exact ih0 _ _ _ _ _ _ _
      | exact cullettop_inv8.mono _ _
      | exact cullettop_mul8.mono _ _ _
      | exact LeO.none _
      | refine LeO.ite ?_ ?_
      | refine LeO.bind ?_ (fun _ => ?_)
set_option maxHeartbeats 8000000 in
set_option maxRecDepth 100000 in
theorem cullettop_logs8.calls (k : Nat) (g : Nat)  (a1 : Int) (a2 : Int) (r : Bool) (w : World) (hI : IsS88 w w g) (h : cullettop_logs8.f k a1 a2 = some r) :
    Calls Try.prog 39 #[.pointer (some ⟨g, 0, none⟩), .int .u8 a1, .int .u8 a2] w fun e w' => e = .returned (.bool r) ∧ Drawn0 w w' := by
  have HI0 := Aside0.mk hI
  clear hI
  have H : ((gf8_Tables_Log.f a1).bind fun bt144 => ((gf8_Tables_Log.f a2).bind fun bt146 => (if a1 = 0 then (cullettop_logs8.j0 k a1 a2 bt144.1 bt144.2 bt146.1 bt146.2 true) else (cullettop_logs8.j0 k a1 a2 bt144.1 bt144.2 bt146.1 bt146.2 (a2 == 0))))) = some r := h
  clear h
  replace H := Option.bind_eq_some_iff.mp H
  obtain ⟨⟨t144, t145⟩, A40, H⟩ := H
  replace H : ((gf8_Tables_Log.f a2).bind fun bt146 => (if a1 = 0 then (cullettop_logs8.j0 k a1 a2 t144 t145 bt146.1 bt146.2 true) else (cullettop_logs8.j0 k a1 a2 t144 t145 bt146.1 bt146.2 (a2 == 0)))) = some r := H
  have A4 := Aside0.mk A40
  clear A40
  replace H := Option.bind_eq_some_iff.mp H
  obtain ⟨⟨t146, t147⟩, A50, H⟩ := H
  replace H : (if a1 = 0 then (cullettop_logs8.j0 k a1 a2 t144 t145 t146 t147 true) else (cullettop_logs8.j0 k a1 a2 t144 t145 t146 t147 (a2 == 0))) = some r := H
  have A5 := Aside0.mk A50
  clear A50
  have HC6 := Aside0.mk H
  clear H
  go_enter Try.func39, Try.ntmps39
  go_upto_region 3 with (first | ((with_reducible refine gate_callee (f := 64) rfl ?_); refine goesL_ (some 14) rfl rfl Try.func64 (by kernel_rfl) rfl #[.pointer (some ⟨g, 0, none⟩), .int .u8 a1] rfl (by (try simp only [List.map_toArray, List.map_cons, List.map_nil]); first | done | rfl | (simp only [tb_wrap8]; done) | (simp only [tb_wrap8]; rfl) | (simp only [List.length_drop, List.length_take]; rfl)) ?_; (with_reducible refine (gf8_Tables_Log.calls g a1 t144 t145 _ ?side1 A4.out).mono ?_); (case side1 => repeat (first | (with_reducible first | exact HI0.out | apply IsS88.alloc | apply IsS88.drewN | apply IsS88.drew) | exact HI0.out)); rintro e w' ⟨rfl, ⟨nd, rfl⟩⟩; refine ⟨_, rfl, ?_⟩) | ((with_reducible refine gate_callee (f := 64) rfl ?_); refine goesL_ (some 20) rfl rfl Try.func64 (by kernel_rfl) rfl #[.pointer (some ⟨g, 0, none⟩), .int .u8 a2] rfl (by (try simp only [List.map_toArray, List.map_cons, List.map_nil]); first | done | rfl | (simp only [tb_wrap8]; done) | (simp only [tb_wrap8]; rfl) | (simp only [List.length_drop, List.length_take]; rfl)) ?_; (with_reducible refine (gf8_Tables_Log.calls g a2 t146 t147 _ ?side1 A5.out).mono ?_); (case side1 => repeat (first | (with_reducible first | exact HI0.out | apply IsS88.alloc | apply IsS88.drewN | apply IsS88.drew) | exact HI0.out)); rintro e w' ⟨rfl, ⟨nd, rfl⟩⟩; refine ⟨_, rfl, ?_⟩))
  (try simp only [Act.put, List.setIfInBounds_toArray, List.set_cons_zero, List.set_cons_succ])
  go_cut [28] (fun v28 wc => ∃ (kq : Nat) (x28_5 : Bool), v28 = .bool x28_5 ∧ Aside0 (cullettop_logs8.j0 kq a1 a2 t144 t145 t146 t147 x28_5 = some r) ∧ Aside0 (kq ≤ k) ∧ Aside0 (IsS88 w wc g ) ∧ Drawn0 w wc)
  case first =>
    have H := HC6.out
    clear HC6
    by_cases c7 : a1 = 0
    · rw [if_pos c7] at H
      have c7b0 : (a1 == 0) = true := beq_iff_eq.mpr c7
      have c7b1 : (a1 != 0) = false := bne_eq_false_iff_eq.mpr c7
      clear c7
      (first | rw [c7b0] | (simp only [i64_w, i32_w]; rw [c7b0]) | skip)
      have H' := Aside0.mk H
      clear H
      go_wp2
      go_meet
      case rel => exact ⟨_, (true), (by first | rfl | (simp; done) | (simp [*]; done)), H', ⟨by first | omega | exact Nat.le_refl _⟩, ⟨by repeat (first | (with_reducible first | exact HI0.out | apply IsS88.alloc | apply IsS88.drewN | apply IsS88.drew) | exact HI0.out)⟩, by repeat (first | exact Drawn0.refl _ | apply Drawn0.step)⟩
    · rw [if_neg c7] at H
      have c7b0 : (a1 == 0) = false := beq_eq_false_iff_ne.mpr c7
      have c7b1 : (a1 != 0) = true := bne_iff_ne.mpr c7
      (first | rw [c7b0] | (simp only [i64_w, i32_w]; rw [c7b0]) | skip)
      have H' := Aside0.mk H
      clear H
      go_wp2
      go_meet
      case rel => exact ⟨_, ((a2 == 0)), (by first | rfl | (simp; done) | (simp [*]; done)), H', ⟨by first | omega | exact Nat.le_refl _⟩, ⟨by repeat (first | (with_reducible first | exact HI0.out | apply IsS88.alloc | apply IsS88.drewN | apply IsS88.drew) | exact HI0.out)⟩, by repeat (first | exact Drawn0.refl _ | apply Drawn0.step)⟩
  case rest =>
    clear HC6
    try clear p2
    try clear c3
    try clear c6
    try clear c7
    try clear c7b0
    try clear c7b1
    obtain ⟨kq, x28_5, rfl, HA, HJ5, HI0, ⟨mc5, rfl⟩⟩ := hcut
    cases kq with
    | zero => exact absurd HA.out (by simp [cullettop_logs8.j0])
    | succ kj5 =>
      have H := HA.out
      clear HA
      simp only [cullettop_logs8.j0] at H
      by_cases c8 : x28_5 = true
      · subst c8
        have H1 : (if a1 = 0 then (if t145 = 20 then (if a2 = 0 then (some (t147 == 20)) else (some true)) else (some false)) else (if a2 = 0 then (some (t147 == 20)) else (some true))) = some r := by rw [if_pos rfl] at H; exact H
        clear H
        have H := H1
        clear H1
        by_cases c9 : a1 = 0
        · rw [if_pos c9] at H
          have c9b0 : (a1 == 0) = true := beq_iff_eq.mpr c9
          have c9b1 : (a1 != 0) = false := bne_eq_false_iff_eq.mpr c9
          clear c9
          by_cases c10 : t145 = 20
          · rw [if_pos c10] at H
            have c10b0 : (t145 == 20) = true := beq_iff_eq.mpr c10
            have c10b1 : (t145 != 20) = false := bne_eq_false_iff_eq.mpr c10
            clear c10
            by_cases c11 : a2 = 0
            · rw [if_pos c11] at H
              have c11b0 : (a2 == 0) = true := beq_iff_eq.mpr c11
              have c11b1 : (a2 != 0) = false := bne_eq_false_iff_eq.mpr c11
              clear c11
              obtain rfl := Option.some.inj H
              go_wp2
              go_ret
              exact ⟨by first | rfl | (simp; done) | (simp [*]; done), by repeat (first | exact Drawn0.refl _ | apply Drawn0.step)⟩
            · rw [if_neg c11] at H
              have c11b0 : (a2 == 0) = false := beq_eq_false_iff_ne.mpr c11
              have c11b1 : (a2 != 0) = true := bne_iff_ne.mpr c11
              obtain rfl := Option.some.inj H
              go_wp2
              go_ret
              exact ⟨by first | rfl | (simp; done) | (simp [*]; done), by repeat (first | exact Drawn0.refl _ | apply Drawn0.step)⟩
          · rw [if_neg c10] at H
            have c10b0 : (t145 == 20) = false := beq_eq_false_iff_ne.mpr c10
            have c10b1 : (t145 != 20) = true := bne_iff_ne.mpr c10
            obtain rfl := Option.some.inj H
            go_wp2
            go_ret
            exact ⟨by first | rfl | (simp; done) | (simp [*]; done), by repeat (first | exact Drawn0.refl _ | apply Drawn0.step)⟩
        · rw [if_neg c9] at H
          have c9b0 : (a1 == 0) = false := beq_eq_false_iff_ne.mpr c9
          have c9b1 : (a1 != 0) = true := bne_iff_ne.mpr c9
          by_cases c12 : a2 = 0
          · rw [if_pos c12] at H
            have c12b0 : (a2 == 0) = true := beq_iff_eq.mpr c12
            have c12b1 : (a2 != 0) = false := bne_eq_false_iff_eq.mpr c12
            clear c12
            obtain rfl := Option.some.inj H
            go_wp2
            go_ret
            exact ⟨by first | rfl | (simp; done) | (simp [*]; done), by repeat (first | exact Drawn0.refl _ | apply Drawn0.step)⟩
          · rw [if_neg c12] at H
            have c12b0 : (a2 == 0) = false := beq_eq_false_iff_ne.mpr c12
            have c12b1 : (a2 != 0) = true := bne_iff_ne.mpr c12
            obtain rfl := Option.some.inj H
            go_wp2
            go_ret
            exact ⟨by first | rfl | (simp; done) | (simp [*]; done), by repeat (first | exact Drawn0.refl _ | apply Drawn0.step)⟩
      · replace c8 := Bool.eq_false_iff.mpr c8
        subst c8
        have H1 : (if t145 = 0 then (if t147 = 0 then ((gf8_Tables_Exp.f (wrap64 (t144 + t146))).bind fun t148 => ((cullettop_mul8.f kj5 a1 a2).bind fun t149 => (if t148 = t149 then ((gf8_Tables_Exp.f (wrap64 (t144 - t146))).bind fun t150 => ((cullettop_inv8.f kj5 a2).bind fun t151 => ((cullettop_mul8.f kj5 a1 t151).bind fun t152 => (some (t150 == t152))))) else (some false)))) else (some false)) else (some false)) = some r := by rw [if_neg (show ¬ (false = true) by decide)] at H; exact H
        clear H
        have H := H1
        clear H1
        by_cases c13 : t145 = 0
        · rw [if_pos c13] at H
          have c13b0 : (t145 == 0) = true := beq_iff_eq.mpr c13
          have c13b1 : (t145 != 0) = false := bne_eq_false_iff_eq.mpr c13
          clear c13
          by_cases c14 : t147 = 0
          · rw [if_pos c14] at H
            have c14b0 : (t147 == 0) = true := beq_iff_eq.mpr c14
            have c14b1 : (t147 != 0) = false := bne_eq_false_iff_eq.mpr c14
            clear c14
            replace H := Option.bind_eq_some_iff.mp H
            obtain ⟨t148, A150, H⟩ := H
            replace H : ((cullettop_mul8.f kj5 a1 a2).bind fun t149 => (if t148 = t149 then ((gf8_Tables_Exp.f (wrap64 (t144 - t146))).bind fun t150 => ((cullettop_inv8.f kj5 a2).bind fun t151 => ((cullettop_mul8.f kj5 a1 t151).bind fun t152 => (some (t150 == t152))))) else (some false))) = some r := H
            have A15 := Aside0.mk A150
            clear A150
            replace H := Option.bind_eq_some_iff.mp H
            obtain ⟨t149, A160, H⟩ := H
            replace H : (if t148 = t149 then ((gf8_Tables_Exp.f (wrap64 (t144 - t146))).bind fun t150 => ((cullettop_inv8.f kj5 a2).bind fun t151 => ((cullettop_mul8.f kj5 a1 t151).bind fun t152 => (some (t150 == t152))))) else (some false)) = some r := H
            have A16 := Aside0.mk A160
            clear A160
            by_cases c17 : t148 = t149
            · rw [if_pos c17] at H
              have c17b0 : (t148 == t149) = true := beq_iff_eq.mpr c17
              have c17b1 : (t148 != t149) = false := bne_eq_false_iff_eq.mpr c17
              clear c17
              replace H := Option.bind_eq_some_iff.mp H
              obtain ⟨t150, A180, H⟩ := H
              replace H : ((cullettop_inv8.f kj5 a2).bind fun t151 => ((cullettop_mul8.f kj5 a1 t151).bind fun t152 => (some (t150 == t152)))) = some r := H
              have A18 := Aside0.mk A180
              clear A180
              replace H := Option.bind_eq_some_iff.mp H
              obtain ⟨t151, A190, H⟩ := H
              replace H : ((cullettop_mul8.f kj5 a1 t151).bind fun t152 => (some (t150 == t152))) = some r := H
              have A19 := Aside0.mk A190
              clear A190
              replace H := Option.bind_eq_some_iff.mp H
              obtain ⟨t152, A200, H⟩ := H
              replace H : (some (t150 == t152)) = some r := H
              have A20 := Aside0.mk A200
              clear A200
              obtain rfl := Option.some.inj H
              go_wp2_with (first | (go_at_call 65; (with_reducible refine (gf8_Tables_Exp.calls g (wrap64 (t144 + t146)) t148 _ ?side1 A15.out).mono ?_); (case side1 => repeat (first | (with_reducible first | exact HI0.out | apply IsS88.alloc | apply IsS88.drewN | apply IsS88.drew) | exact HI0.out)); rintro e w' ⟨rfl, ⟨nd, rfl⟩⟩) | (go_at_call 66; (with_reducible refine (cullettop_mul8.calls kj5 a1 a2 t149 _ A16.out).mono ?_); rintro e w' ⟨rfl, ⟨nd, rfl⟩⟩) | (go_at_call 65; (with_reducible refine (gf8_Tables_Exp.calls g (wrap64 (t144 - t146)) t150 _ ?side1 A18.out).mono ?_); (case side1 => repeat (first | (with_reducible first | exact HI0.out | apply IsS88.alloc | apply IsS88.drewN | apply IsS88.drew) | exact HI0.out)); rintro e w' ⟨rfl, ⟨nd, rfl⟩⟩) | (go_at_call 67; (with_reducible refine (cullettop_inv8.calls kj5 a2 t151 _ A19.out).mono ?_); rintro e w' ⟨rfl, ⟨nd, rfl⟩⟩) | (go_at_call 66; (with_reducible refine (cullettop_mul8.calls kj5 a1 t151 t152 _ A20.out).mono ?_); rintro e w' ⟨rfl, ⟨nd, rfl⟩⟩))
              go_ret
              exact ⟨by first | rfl | (simp; done) | (simp [*]; done), by repeat (first | exact Drawn0.refl _ | apply Drawn0.step)⟩
            · rw [if_neg c17] at H
              have c17b0 : (t148 == t149) = false := beq_eq_false_iff_ne.mpr c17
              have c17b1 : (t148 != t149) = true := bne_iff_ne.mpr c17
              obtain rfl := Option.some.inj H
              go_wp2_with (first | (go_at_call 65; (with_reducible refine (gf8_Tables_Exp.calls g (wrap64 (t144 + t146)) t148 _ ?side1 A15.out).mono ?_); (case side1 => repeat (first | (with_reducible first | exact HI0.out | apply IsS88.alloc | apply IsS88.drewN | apply IsS88.drew) | exact HI0.out)); rintro e w' ⟨rfl, ⟨nd, rfl⟩⟩) | (go_at_call 66; (with_reducible refine (cullettop_mul8.calls kj5 a1 a2 t149 _ A16.out).mono ?_); rintro e w' ⟨rfl, ⟨nd, rfl⟩⟩))
              go_ret
              exact ⟨by first | rfl | (simp; done) | (simp [*]; done), by repeat (first | exact Drawn0.refl _ | apply Drawn0.step)⟩
          · rw [if_neg c14] at H
            have c14b0 : (t147 == 0) = false := beq_eq_false_iff_ne.mpr c14
            have c14b1 : (t147 != 0) = true := bne_iff_ne.mpr c14
            obtain rfl := Option.some.inj H
            go_wp2
            go_ret
            exact ⟨by first | rfl | (simp; done) | (simp [*]; done), by repeat (first | exact Drawn0.refl _ | apply Drawn0.step)⟩
        · rw [if_neg c13] at H
          have c13b0 : (t145 == 0) = false := beq_eq_false_iff_ne.mpr c13
          have c13b1 : (t145 != 0) = true := bne_iff_ne.mpr c13
          obtain rfl := Option.some.inj H
          go_wp2
          go_ret
          exact ⟨by first | rfl | (simp; done) | (simp [*]; done), by repeat (first | exact Drawn0.refl _ | apply Drawn0.step)⟩

/-! ### cullettop_mul16: function 68 -/
def cullettop_mul16.l0 : Nat → Int → Int → Int → Int → Option (Int)
  | 0, _, _, _, _ => none
  | k + 1, x5, x6, x7, x8 => if x8 < 16 then (if 0 ≤ x8 then (if (Go.bits .and .i64 (shr .i64 x6 x8) 1) = 1 then (if (Go.bits .and .i64 (wrap64 (x5 * 2)) 65536) = 0 then (cullettop_mul16.l0 k (wrap64 (x5 * 2)) x6 (Go.bits .xor .i64 x7 x5) (wrap64 (x8 + 1))) else (cullettop_mul16.l0 k (Go.bits .xor .i64 (wrap64 (x5 * 2)) 65581) x6 (Go.bits .xor .i64 x7 x5) (wrap64 (x8 + 1)))) else (if (Go.bits .and .i64 (wrap64 (x5 * 2)) 65536) = 0 then (cullettop_mul16.l0 k (wrap64 (x5 * 2)) x6 x7 (wrap64 (x8 + 1))) else (cullettop_mul16.l0 k (Go.bits .xor .i64 (wrap64 (x5 * 2)) 65581) x6 x7 (wrap64 (x8 + 1))))) else (none)) else (some (IntKind.u16.wrap (x7)))
def cullettop_mul16.f (k : Nat) (a0 : Int) (a1 : Int) : Option (Int) := cullettop_mul16.l0 k (wrap64 (a0)) (wrap64 (a1)) 0 0
theorem cullettop_mul16.mono_l : ∀ k, (∀ y0 y1 y2 y3, LeO (cullettop_mul16.l0 k y0 y1 y2 y3) (cullettop_mul16.l0 (k + 1) y0 y1 y2 y3))
  | 0 => fun _ _ _ _ r h => by simp [cullettop_mul16.l0] at h
  | k + 1 => by
    have ih0 := cullettop_mul16.mono_l k
    · intro y0 y1 y2 y3
      unfold cullettop_mul16.l0
      repeat' first
      | (with_reducible exact ih0 _ _ _ _)
      | (with_reducible exact LeO.refl _)
      | (with_reducible exact LeO.none _)
      | (with_reducible refine LeO.ite ?_ ?_)
      | (with_reducible refine LeO.bind ?_ (fun _ => ?_))
      | exact ih0 _ _ _ _
      | exact LeO.none _
      | refine LeO.ite ?_ ?_
      | refine LeO.bind ?_ (fun _ => ?_)
theorem cullettop_mul16.mono : ∀ a0 a1 k, LeO (cullettop_mul16.f k a0 a1) (cullettop_mul16.f (k + 1) a0 a1) := by
  intro a0 a1 k
  have ih0 := cullettop_mul16.mono_l k
  unfold cullettop_mul16.f
  repeat' first
      | (with_reducible exact ih0 _ _ _ _)
      | (with_reducible exact LeO.refl _)
      | (with_reducible exact LeO.none _)
      | (with_reducible refine LeO.ite ?_ ?_)
      | (with_reducible refine LeO.bind ?_ (fun _ => ?_))
      | exact ih0 _ _ _ _
      | exact LeO.none _
      | refine LeO.ite ?_ ?_
      | refine LeO.bind ?_ (fun _ => ?_)
set_option maxHeartbeats 8000000 in
set_option maxRecDepth 100000 in
theorem cullettop_mul16.calls (k : Nat) (a0 : Int) (a1 : Int) (r : Int) (w : World) (h : cullettop_mul16.f k a0 a1 = some r) :
    Calls Try.prog 68 #[.int .u16 a0, .int .u16 a1] w fun e w' => e = .returned (.int .u16 r) ∧ Drawn0 w w' := by
  have H : (cullettop_mul16.l0 k (wrap64 (a0)) (wrap64 (a1)) 0 0) = some r := h
  clear h
  have H' := Aside0.mk H
  clear H
  go_enter Try.func68, Try.ntmps68
  go_wp2
  go_loopg [5, 7, 8] k (fun kq v5 v7 v8 w' => ∃ (x5_1 : Int) (x7_1 : Int) (x8_1 : Int), v5 = .int .i64 x5_1 ∧ v7 = .int .i64 x7_1 ∧ v8 = .int .i64 x8_1 ∧ Aside0 (cullettop_mul16.l0 kq x5_1 (wrap64 (a1)) x7_1 x8_1 = some r) ∧ Aside0 (kq ≤ k) ∧ Drawn0 w w')
  case atStart => exact ⟨(wrap64 (a0)), (0), (0), (by first | rfl | (simp; done) | (simp [*]; done)), (by first | rfl | (simp; done) | (simp [*]; done)), (by first | rfl | (simp; done) | (simp [*]; done)), H', ⟨Nat.le_refl _⟩, by repeat (first | exact Drawn0.refl _ | apply Drawn0.step)⟩
  case round =>
    clear H'
    try clear p2
    obtain ⟨x5_1, x7_1, x8_1, rfl, rfl, rfl, HA, HK1, ⟨m1, rfl⟩⟩ := hrel
    cases gk with
    | zero => exact absurd HA.out (by simp [cullettop_mul16.l0])
    | succ k1 =>
      have H := HA.out
      clear HA
      simp only [cullettop_mul16.l0] at H
      by_cases c3 : x8_1 < 16
      · rw [if_pos c3] at H
        have c3b0 : decide (x8_1 < 16) = true := decide_eq_true c3
        clear c3
        by_cases c4 : 0 ≤ x8_1
        · rw [if_pos c4] at H
          have c4b0 := eq_true c4
          have c4b1 : decide (0 ≤ x8_1) = true := decide_eq_true c4
          clear c4
          obtain ⟨ji5, hji5⟩ : ∃ j_ : Int, (shr .i64 (wrap64 (a1)) x8_1) = j_ := ⟨_, rfl⟩
          replace H : (if (Go.bits .and .i64 (ji5) 1) = 1 then (if (Go.bits .and .i64 (wrap64 (x5_1 * 2)) 65536) = 0 then (cullettop_mul16.l0 k1 (wrap64 (x5_1 * 2)) (wrap64 (a1)) (Go.bits .xor .i64 x7_1 x5_1) (wrap64 (x8_1 + 1))) else (cullettop_mul16.l0 k1 (Go.bits .xor .i64 (wrap64 (x5_1 * 2)) 65581) (wrap64 (a1)) (Go.bits .xor .i64 x7_1 x5_1) (wrap64 (x8_1 + 1)))) else (if (Go.bits .and .i64 (wrap64 (x5_1 * 2)) 65536) = 0 then (cullettop_mul16.l0 k1 (wrap64 (x5_1 * 2)) (wrap64 (a1)) x7_1 (wrap64 (x8_1 + 1))) else (cullettop_mul16.l0 k1 (Go.bits .xor .i64 (wrap64 (x5_1 * 2)) 65581) (wrap64 (a1)) x7_1 (wrap64 (x8_1 + 1))))) = some r := by first | (rw [hji5] at H; exact H) | (simp only [hji5] at H ⊢; exact H)
          have hji5_ : ((wrap64 (a1)) / 2 ^ min x8_1.toNat 64) = ji5 := hji5
          have hji5z : x8_1 ≤ 64 → ((wrap64 (a1)) / 2 ^ x8_1.toNat) = ji5 := shr_small hji5
          by_cases c6 : (Go.bits .and .i64 (ji5) 1) = 1
          · rw [if_pos c6] at H
            have c6b0 : ((Go.bits .and .i64 (ji5) 1) == 1) = true := beq_iff_eq.mpr c6
            have c6b1 : ((Go.bits .and .i64 (ji5) 1) != 1) = false := bne_eq_false_iff_eq.mpr c6
            clear c6
            by_cases c7 : (Go.bits .and .i64 (wrap64 (x5_1 * 2)) 65536) = 0
            · rw [if_pos c7] at H
              have c7b0 : ((Go.bits .and .i64 (wrap64 (x5_1 * 2)) 65536) == 0) = true := beq_iff_eq.mpr c7
              have c7b1 : ((Go.bits .and .i64 (wrap64 (x5_1 * 2)) 65536) != 0) = false := bne_eq_false_iff_eq.mpr c7
              clear c7
              have H' := Aside0.mk H
              clear H
              go_wp2
              go_roundg k1
              case measure => have := HK1.out; omega
              case rel => exact ⟨(wrap64 (x5_1 * 2)), (Go.bits .xor .i64 x7_1 x5_1), (wrap64 (x8_1 + 1)), (by first | rfl | (simp; done) | (simp [*]; done)), (by first | rfl | (simp; done) | (simp [*]; done)), (by first | rfl | (simp; done) | (simp [*]; done)), H', ⟨by have := HK1.out; omega⟩, by repeat (first | exact Drawn0.refl _ | apply Drawn0.step)⟩
            · rw [if_neg c7] at H
              have c7b0 : ((Go.bits .and .i64 (wrap64 (x5_1 * 2)) 65536) == 0) = false := beq_eq_false_iff_ne.mpr c7
              have c7b1 : ((Go.bits .and .i64 (wrap64 (x5_1 * 2)) 65536) != 0) = true := bne_iff_ne.mpr c7
              have H' := Aside0.mk H
              clear H
              go_wp2
              go_roundg k1
              case measure => have := HK1.out; omega
              case rel => exact ⟨(Go.bits .xor .i64 (wrap64 (x5_1 * 2)) 65581), (Go.bits .xor .i64 x7_1 x5_1), (wrap64 (x8_1 + 1)), (by first | rfl | (simp; done) | (simp [*]; done)), (by first | rfl | (simp; done) | (simp [*]; done)), (by first | rfl | (simp; done) | (simp [*]; done)), H', ⟨by have := HK1.out; omega⟩, by repeat (first | exact Drawn0.refl _ | apply Drawn0.step)⟩
          · rw [if_neg c6] at H
            have c6b0 : ((Go.bits .and .i64 (ji5) 1) == 1) = false := beq_eq_false_iff_ne.mpr c6
            have c6b1 : ((Go.bits .and .i64 (ji5) 1) != 1) = true := bne_iff_ne.mpr c6
            by_cases c8 : (Go.bits .and .i64 (wrap64 (x5_1 * 2)) 65536) = 0
            · rw [if_pos c8] at H
              have c8b0 : ((Go.bits .and .i64 (wrap64 (x5_1 * 2)) 65536) == 0) = true := beq_iff_eq.mpr c8
              have c8b1 : ((Go.bits .and .i64 (wrap64 (x5_1 * 2)) 65536) != 0) = false := bne_eq_false_iff_eq.mpr c8
              clear c8
              have H' := Aside0.mk H
              clear H
              go_wp2
              go_roundg k1
              case measure => have := HK1.out; omega
              case rel => exact ⟨(wrap64 (x5_1 * 2)), (x7_1), (wrap64 (x8_1 + 1)), (by first | rfl | (simp; done) | (simp [*]; done)), (by first | rfl | (simp; done) | (simp [*]; done)), (by first | rfl | (simp; done) | (simp [*]; done)), H', ⟨by have := HK1.out; omega⟩, by repeat (first | exact Drawn0.refl _ | apply Drawn0.step)⟩
            · rw [if_neg c8] at H
              have c8b0 : ((Go.bits .and .i64 (wrap64 (x5_1 * 2)) 65536) == 0) = false := beq_eq_false_iff_ne.mpr c8
              have c8b1 : ((Go.bits .and .i64 (wrap64 (x5_1 * 2)) 65536) != 0) = true := bne_iff_ne.mpr c8
              have H' := Aside0.mk H
              clear H
              go_wp2
              go_roundg k1
              case measure => have := HK1.out; omega
              case rel => exact ⟨(Go.bits .xor .i64 (wrap64 (x5_1 * 2)) 65581), (x7_1), (wrap64 (x8_1 + 1)), (by first | rfl | (simp; done) | (simp [*]; done)), (by first | rfl | (simp; done) | (simp [*]; done)), (by first | rfl | (simp; done) | (simp [*]; done)), H', ⟨by have := HK1.out; omega⟩, by repeat (first | exact Drawn0.refl _ | apply Drawn0.step)⟩
        · rw [if_neg c4] at H
          exact absurd H (by simp)
      · rw [if_neg c3] at H
        have c3b0 : decide (x8_1 < 16) = false := decide_eq_false c3
        clear c3
        obtain rfl := Option.some.inj H
        go_wp2
        go_ret
        exact ⟨by first | rfl | (simp; done) | (simp [*]; done), by repeat (first | exact Drawn0.refl _ | apply Drawn0.step)⟩

/-! ### cullettop_inv16: function 69 -/
def cullettop_inv16.l0 : Nat → Int → Int → Int → Option (Int)
  | 0, _, _, _ => none
  | k + 1, x3, x4, x5 => if x5 < 16 then ((cullettop_mul16.f k x4 x4).bind fun t153 => ((cullettop_mul16.f k x3 t153).bind fun t154 => (cullettop_inv16.l0 k t154 t153 (wrap64 (x5 + 1))))) else (some x3)
def cullettop_inv16.f (k : Nat) (a0 : Int) : Option (Int) := cullettop_inv16.l0 k 1 a0 1
theorem cullettop_inv16.mono_l : ∀ k, (∀ y0 y1 y2, LeO (cullettop_inv16.l0 k y0 y1 y2) (cullettop_inv16.l0 (k + 1) y0 y1 y2))
  | 0 => fun _ _ _ r h => by simp [cullettop_inv16.l0] at h
  | k + 1 => by
    have ih0 := cullettop_inv16.mono_l k
    · intro y0 y1 y2
      unfold cullettop_inv16.l0
      repeat' first
      | (with_reducible exact ih0 _ _ _)
      | (with_reducible exact cullettop_mul16.mono _ _ _)
      | (with_reducible exact LeO.refl _)
      | (with_reducible exact LeO.none _)
      | (with_reducible refine LeO.ite ?_ ?_)
      | (with_reducible refine LeO.bind ?_ (fun _ => ?_))
      | exact ih0 _ _ _
      | exact cullettop_mul16.mono _ _ _
      | exact LeO.none _
      | refine LeO.ite ?_ ?_
      | refine LeO.bind ?_ (fun _ => ?_)
theorem cullettop_inv16.mono : ∀ a0 k, LeO (cullettop_inv16.f k a0) (cullettop_inv16.f (k + 1) a0) := by
  intro a0 k
  have ih0 := cullettop_inv16.mono_l k
  unfold cullettop_inv16.f
  repeat' first
      | (with_reducible exact ih0 _ _ _)
      | (with_reducible exact cullettop_mul16.mono _ _ _)
      | (with_reducible exact LeO.refl _)
      | (with_reducible exact LeO.none _)
      | (with_reducible refine LeO.ite ?_ ?_)
      | (with_reducible refine LeO.bind ?_ (fun _ => ?_))
      | exact ih0 _ _ _
      | exact cullettop_mul16.mono _ _ _
      | exact LeO.none _
      | refine LeO.ite ?_ ?_
      | refine LeO.bind ?_ (fun _ => ?_)
set_option maxHeartbeats 8000000 in
set_option maxRecDepth 100000 in
theorem cullettop_inv16.calls (k : Nat) (a0 : Int) (r : Int) (w : World) (h : cullettop_inv16.f k a0 = some r) :
    Calls Try.prog 69 #[.int .u16 a0] w fun e w' => e = .returned (.int .u16 r) ∧ Drawn0 w w' := by
  have H : (cullettop_inv16.l0 k 1 a0 1) = some r := h
  clear h
  have H' := Aside0.mk H
  clear H
  go_enter Try.func69, Try.ntmps69
  go_wp2
  go_loopg [3, 4, 5] k (fun kq v3 v4 v5 w' => ∃ (x3_1 : Int) (x4_1 : Int) (x5_1 : Int), v3 = .int .u16 x3_1 ∧ v4 = .int .u16 x4_1 ∧ v5 = .int .i64 x5_1 ∧ Aside0 (cullettop_inv16.l0 kq x3_1 x4_1 x5_1 = some r) ∧ Aside0 (kq ≤ k) ∧ Drawn0 w w')
  case atStart => exact ⟨(1), (a0), (1), (by first | rfl | (simp; done) | (simp [*]; done)), (by first | rfl | (simp; done) | (simp [*]; done)), (by first | rfl | (simp; done) | (simp [*]; done)), H', ⟨Nat.le_refl _⟩, by repeat (first | exact Drawn0.refl _ | apply Drawn0.step)⟩
  case round =>
    clear H'
    obtain ⟨x3_1, x4_1, x5_1, rfl, rfl, rfl, HA, HK1, ⟨m1, rfl⟩⟩ := hrel
    cases gk with
    | zero => exact absurd HA.out (by simp [cullettop_inv16.l0])
    | succ k1 =>
      have H := HA.out
      clear HA
      simp only [cullettop_inv16.l0] at H
      by_cases c2 : x5_1 < 16
      · rw [if_pos c2] at H
        have c2b0 : decide (x5_1 < 16) = true := decide_eq_true c2
        clear c2
        replace H := Option.bind_eq_some_iff.mp H
        obtain ⟨t153, A30, H⟩ := H
        replace H : ((cullettop_mul16.f k1 x3_1 t153).bind fun t154 => (cullettop_inv16.l0 k1 t154 t153 (wrap64 (x5_1 + 1)))) = some r := H
        have A3 := Aside0.mk A30
        clear A30
        replace H := Option.bind_eq_some_iff.mp H
        obtain ⟨t154, A40, H⟩ := H
        replace H : (cullettop_inv16.l0 k1 t154 t153 (wrap64 (x5_1 + 1))) = some r := H
        have A4 := Aside0.mk A40
        clear A40
        have H' := Aside0.mk H
        clear H
        go_wp2_with (first | ((with_reducible refine gate_callee (f := 68) rfl ?_); refine goesL_ (some 13) rfl rfl Try.func68 (by kernel_rfl) rfl #[.int .u16 x4_1, .int .u16 x4_1] rfl (by (try simp only [List.map_toArray, List.map_cons, List.map_nil]); first | done | rfl | (simp only [tb_wrap8]; done) | (simp only [tb_wrap8]; rfl) | (simp only [List.length_drop, List.length_take]; rfl)) ?_; (with_reducible refine (cullettop_mul16.calls k1 x4_1 x4_1 t153 _ A3.out).mono ?_); rintro e w' ⟨rfl, ⟨nd, rfl⟩⟩; refine ⟨_, rfl, ?_⟩) | ((with_reducible refine gate_callee (f := 68) rfl ?_); refine goesL_ (some 16) rfl rfl Try.func68 (by kernel_rfl) rfl #[.int .u16 x3_1, .int .u16 t153] rfl (by (try simp only [List.map_toArray, List.map_cons, List.map_nil]); first | done | rfl | (simp only [tb_wrap8]; done) | (simp only [tb_wrap8]; rfl) | (simp only [List.length_drop, List.length_take]; rfl)) ?_; (with_reducible refine (cullettop_mul16.calls k1 x3_1 t153 t154 _ A4.out).mono ?_); rintro e w' ⟨rfl, ⟨nd, rfl⟩⟩; refine ⟨_, rfl, ?_⟩))
        go_roundg k1
        case measure => have := HK1.out; omega
        case rel => exact ⟨(t154), (t153), (wrap64 (x5_1 + 1)), (by first | rfl | (simp; done) | (simp [*]; done)), (by first | rfl | (simp; done) | (simp [*]; done)), (by first | rfl | (simp; done) | (simp [*]; done)), H', ⟨by have := HK1.out; omega⟩, by repeat (first | exact Drawn0.refl _ | apply Drawn0.step)⟩
      · rw [if_neg c2] at H
        have c2b0 : decide (x5_1 < 16) = false := decide_eq_false c2
        clear c2
        obtain rfl := Option.some.inj H
        go_wp2
        go_ret
        exact ⟨by first | rfl | (simp; done) | (simp [*]; done), by repeat (first | exact Drawn0.refl _ | apply Drawn0.step)⟩

end Go.Proofs.Ytedaifgbnojojaa.Q
