-- Printed for this claim by mp.py, a program of its prover, through the kit's print. Lean checks it.
import Derived.Test.YtedaifgbnojojaaQx0
import Derived.Test.YtedaifgbnojojaaQx1
import Derived.Test.YtedaifgbnojojaaQx2
namespace Go.Proofs.Ytedaifgbnojojaa.Q
open Go.RowKit Go.Proofs.YtedaifgbnojojaaW.PrintWords Go.Proofs.YtedaifgbnojojaaW.PrintLast Go.Proofs.YtedaifgbnojojaaW.PrintMore
attribute [local go_sem] max2_int min2_int max_two min_two max_three min_three max_four min_four   -- for this text's walks alone
set_option linter.unusedVariables false
set_option linter.unusedSimpArgs false

/-! ### cullettop_WholeBasis: function 9 -/
mutual
def cullettop_WholeBasis.j0 : Nat → Int → Int → Bool → Option (Bool)
  | 0, _, _, _ => none
  | k + 1, x0, x5, x69 => if x69 = true then (some false) else ((gf16_Basis.f).bind fun t148 => (if (t148.length : Int) = 16 then (if 0 < (t148.length : Int) then (cullettop_WholeBasis.j1 k x0 x5 t148 ((rd t148 0) != 1)) else (none)) else (cullettop_WholeBasis.j1 k x0 x5 t148 true)))
def cullettop_WholeBasis.j1 : Nat → Int → Int → List Int → Bool → Option (Bool)
  | 0, _, _, _, _ => none
  | k + 1, x0, x5, x11, x79 => if x79 = true then (some false) else (cullettop_WholeBasis.l0 k x0 x5 x11 0 x11 (x11.length : Int) 0)
def cullettop_WholeBasis.l0 : Nat → Int → Int → List Int → Int → List Int → Int → Int → Option (Bool)
  | 0, _, _, _, _, _, _, _ => none
  | k + 1, x0, x5, x11, x12, x80, x81, x82 => if x82 < x81 then (if 0 ≤ x82 then (if x82 < (x80.length : Int) then (if (Go.bits .and .u16 (shr .u16 x0 x82) 1) = 1 then (cullettop_WholeBasis.j3 k x0 x5 x11 (Go.bits .xor .u16 x12 (rd x80 x82)) x82 (rd x80 x82) x80 x81 x82) else (cullettop_WholeBasis.j3 k x0 x5 x11 x12 x82 (rd x80 x82) x80 x81 x82)) else (none)) else (none)) else (some (x12 == x5))
def cullettop_WholeBasis.j3 : Nat → Int → Int → List Int → Int → Int → Int → List Int → Int → Int → Option (Bool)
  | 0, _, _, _, _, _, _, _, _, _ => none
  | k + 1, x0, x5, x11, x12, x13, x14, x80, x81, x82 => if x13 = 0 then (cullettop_WholeBasis.l0 k x0 x5 x11 x12 x80 x81 (wrap64 (x82 + 1))) else ((ring_MulMod.f k (IntKind.u64.wrap (x14)) (IntKind.u64.wrap (x14)) 65581).bind fun bt153 => (if bt153.2 = 0 then (if (Go.bits .and .u16 x14 1) = 1 then (some false) else (if 0 ≤ (wrap64 (x13 - 1)) then (if (wrap64 (x13 - 1)) < (x11.length : Int) then (if (Go.bits .xor .u16 (IntKind.u16.wrap (bt153.1)) x14) = (rd x11 (wrap64 (x13 - 1))) then (cullettop_WholeBasis.l0 k x0 x5 x11 x12 x80 x81 (wrap64 (x82 + 1))) else (some false)) else (none)) else (none))) else (some false)))
end
def cullettop_WholeBasis.f (k : Nat) (a0 : Int) (a1 : Int) : Option (Bool) := (gf16_Element.f (wrap64 (a0))).bind fun bt140 => ((gf16_Element.f (wrap64 (a1))).bind fun bt142 => ((gf16_Element.f (wrap64 (Go.bits .xor .u16 a0 a1))).bind fun bt144 => (if bt140.2 = 0 then (if bt142.2 = 0 then (if bt144.2 = 0 then (if bt144.1 = (Go.bits .xor .u16 bt140.1 bt142.1) then ((gf16_Index.f bt140.1).bind fun t146 => (if t146 = (wrap64 (a0)) then ((gf16_Index.f bt144.1).bind fun t147 => (cullettop_WholeBasis.j0 k a0 bt140.1 (t147 != (wrap64 (Go.bits .xor .u16 a0 a1))))) else (cullettop_WholeBasis.j0 k a0 bt140.1 true))) else (cullettop_WholeBasis.j0 k a0 bt140.1 true)) else (cullettop_WholeBasis.j0 k a0 bt140.1 true)) else (cullettop_WholeBasis.j0 k a0 bt140.1 true)) else (cullettop_WholeBasis.j0 k a0 bt140.1 true))))
theorem cullettop_WholeBasis.mono_l : ∀ k, (∀ y0 y1 y2, LeO (cullettop_WholeBasis.j0 k y0 y1 y2) (cullettop_WholeBasis.j0 (k + 1) y0 y1 y2)) ∧ (∀ y0 y1 y2 y3, LeO (cullettop_WholeBasis.j1 k y0 y1 y2 y3) (cullettop_WholeBasis.j1 (k + 1) y0 y1 y2 y3)) ∧ (∀ y0 y1 y2 y3 y4 y5 y6, LeO (cullettop_WholeBasis.l0 k y0 y1 y2 y3 y4 y5 y6) (cullettop_WholeBasis.l0 (k + 1) y0 y1 y2 y3 y4 y5 y6)) ∧ (∀ y0 y1 y2 y3 y4 y5 y6 y7 y8, LeO (cullettop_WholeBasis.j3 k y0 y1 y2 y3 y4 y5 y6 y7 y8) (cullettop_WholeBasis.j3 (k + 1) y0 y1 y2 y3 y4 y5 y6 y7 y8))
  | 0 => ⟨fun _ _ _ r h => by simp [cullettop_WholeBasis.j0] at h, fun _ _ _ _ r h => by simp [cullettop_WholeBasis.j1] at h, fun _ _ _ _ _ _ _ r h => by simp [cullettop_WholeBasis.l0] at h, fun _ _ _ _ _ _ _ _ _ r h => by simp [cullettop_WholeBasis.j3] at h⟩
  | k + 1 => by
    obtain ⟨ih0, ih1, ih2, ih3⟩ := cullettop_WholeBasis.mono_l k
    refine ⟨?_, ?_, ?_, ?_⟩
    · intro y0 y1 y2
      unfold cullettop_WholeBasis.j0
      repeat' first
      | (with_reducible exact ih0 _ _ _)
      | (with_reducible exact ih1 _ _ _ _)
      | (with_reducible exact ih2 _ _ _ _ _ _ _)
      | (with_reducible exact ih3 _ _ _ _ _ _ _ _ _)
      | (with_reducible exact ring_MulMod.mono _ _ _ _)
      | (with_reducible exact LeO.refl _)
      | (with_reducible exact LeO.none _)
      | (with_reducible refine LeO.ite ?_ ?_)
      | (with_reducible refine LeO.bind ?_ (fun _ => ?_))
      | exact ih0 _ _ _
      | exact ih1 _ _ _ _
      | exact ih2 _ _ _ _ _ _ _
      | exact ih3 _ _ _ _ _ _ _ _ _
      | exact ring_MulMod.mono _ _ _ _
      | exact LeO.none _
      | refine LeO.ite ?_ ?_
      | refine LeO.bind ?_ (fun _ => ?_)
    · intro y0 y1 y2 y3
      unfold cullettop_WholeBasis.j1
      repeat' first
      | (with_reducible exact ih0 _ _ _)
      | (with_reducible exact ih1 _ _ _ _)
      | (with_reducible exact ih2 _ _ _ _ _ _ _)
      | (with_reducible exact ih3 _ _ _ _ _ _ _ _ _)
      | (with_reducible exact ring_MulMod.mono _ _ _ _)
      | (with_reducible exact LeO.refl _)
      | (with_reducible exact LeO.none _)
      | (with_reducible refine LeO.ite ?_ ?_)
      | (with_reducible refine LeO.bind ?_ (fun _ => ?_))
      | exact ih0 _ _ _
      | exact ih1 _ _ _ _
      | exact ih2 _ _ _ _ _ _ _
      | exact ih3 _ _ _ _ _ _ _ _ _
      | exact ring_MulMod.mono _ _ _ _
      | exact LeO.none _
      | refine LeO.ite ?_ ?_
      | refine LeO.bind ?_ (fun _ => ?_)
    · intro y0 y1 y2 y3 y4 y5 y6
      unfold cullettop_WholeBasis.l0
      repeat' first
      | (with_reducible exact ih0 _ _ _)
      | (with_reducible exact ih1 _ _ _ _)
      | (with_reducible exact ih2 _ _ _ _ _ _ _)
      | (with_reducible exact ih3 _ _ _ _ _ _ _ _ _)
      | (with_reducible exact ring_MulMod.mono _ _ _ _)
      | (with_reducible exact LeO.refl _)
      | (with_reducible exact LeO.none _)
      | (with_reducible refine LeO.ite ?_ ?_)
      | (with_reducible refine LeO.bind ?_ (fun _ => ?_))
      | exact ih0 _ _ _
      | exact ih1 _ _ _ _
      | exact ih2 _ _ _ _ _ _ _
      | exact ih3 _ _ _ _ _ _ _ _ _
      | exact ring_MulMod.mono _ _ _ _
      | exact LeO.none _
      | refine LeO.ite ?_ ?_
      | refine LeO.bind ?_ (fun _ => ?_)
    · intro y0 y1 y2 y3 y4 y5 y6 y7 y8
      unfold cullettop_WholeBasis.j3
      repeat' first
      | (with_reducible exact ih0 _ _ _)
      | (with_reducible exact ih1 _ _ _ _)
      | (with_reducible exact ih2 _ _ _ _ _ _ _)
      | (with_reducible exact ih3 _ _ _ _ _ _ _ _ _)
      | (with_reducible exact ring_MulMod.mono _ _ _ _)
      | (with_reducible exact LeO.refl _)
      | (with_reducible exact LeO.none _)
      | (with_reducible refine LeO.ite ?_ ?_)
      | (with_reducible refine LeO.bind ?_ (fun _ => ?_))
      | exact ih0 _ _ _
      | exact ih1 _ _ _ _
      | exact ih2 _ _ _ _ _ _ _
      | exact ih3 _ _ _ _ _ _ _ _ _
      | exact ring_MulMod.mono _ _ _ _
      | exact LeO.none _
      | refine LeO.ite ?_ ?_
      | refine LeO.bind ?_ (fun _ => ?_)
theorem cullettop_WholeBasis.mono : ∀ a0 a1 k, LeO (cullettop_WholeBasis.f k a0 a1) (cullettop_WholeBasis.f (k + 1) a0 a1) := by
  intro a0 a1 k
  obtain ⟨ih0, ih1, ih2, ih3⟩ := cullettop_WholeBasis.mono_l k
  unfold cullettop_WholeBasis.f
  repeat' first
      | (with_reducible exact ih0 _ _ _)
      | (with_reducible exact ih1 _ _ _ _)
      | (with_reducible exact ih2 _ _ _ _ _ _ _)
      | (with_reducible exact ih3 _ _ _ _ _ _ _ _ _)
      | (with_reducible exact ring_MulMod.mono _ _ _ _)
      | (with_reducible exact LeO.refl _)
      | (with_reducible exact LeO.none _)
      | (with_reducible refine LeO.ite ?_ ?_)
      | (with_reducible refine LeO.bind ?_ (fun _ => ?_))
      | exact ih0 _ _ _
      | exact ih1 _ _ _ _
      | exact ih2 _ _ _ _ _ _ _
      | exact ih3 _ _ _ _ _ _ _ _ _
      | exact ring_MulMod.mono _ _ _ _
      | exact LeO.none _
      | refine LeO.ite ?_ ?_
      | refine LeO.bind ?_ (fun _ => ?_)
set_option maxHeartbeats 8000000 in
set_option maxRecDepth 100000 in
theorem cullettop_WholeBasis.calls (k : Nat) (a0 : Int) (a1 : Int) (r : Bool) (w : World) (h : cullettop_WholeBasis.f k a0 a1 = some r) :
    Calls Try.prog 9 #[.int .u16 a0, .int .u16 a1] w fun e w' => e = .returned (.bool r) ∧ Below w.heap.size w w' := by
  have HB := Aside0.mk (Below.refl w.heap.size w)
  have H : ((gf16_Element.f (wrap64 (a0))).bind fun bt140 => ((gf16_Element.f (wrap64 (a1))).bind fun bt142 => ((gf16_Element.f (wrap64 (Go.bits .xor .u16 a0 a1))).bind fun bt144 => (if bt140.2 = 0 then (if bt142.2 = 0 then (if bt144.2 = 0 then (if bt144.1 = (Go.bits .xor .u16 bt140.1 bt142.1) then ((gf16_Index.f bt140.1).bind fun t146 => (if t146 = (wrap64 (a0)) then ((gf16_Index.f bt144.1).bind fun t147 => (cullettop_WholeBasis.j0 k a0 bt140.1 (t147 != (wrap64 (Go.bits .xor .u16 a0 a1))))) else (cullettop_WholeBasis.j0 k a0 bt140.1 true))) else (cullettop_WholeBasis.j0 k a0 bt140.1 true)) else (cullettop_WholeBasis.j0 k a0 bt140.1 true)) else (cullettop_WholeBasis.j0 k a0 bt140.1 true)) else (cullettop_WholeBasis.j0 k a0 bt140.1 true))))) = some r := h
  clear h
  replace H := Option.bind_eq_some_iff.mp H
  obtain ⟨⟨t140, t141⟩, A30, H⟩ := H
  replace H : ((gf16_Element.f (wrap64 (a1))).bind fun bt142 => ((gf16_Element.f (wrap64 (Go.bits .xor .u16 a0 a1))).bind fun bt144 => (if t141 = 0 then (if bt142.2 = 0 then (if bt144.2 = 0 then (if bt144.1 = (Go.bits .xor .u16 t140 bt142.1) then ((gf16_Index.f t140).bind fun t146 => (if t146 = (wrap64 (a0)) then ((gf16_Index.f bt144.1).bind fun t147 => (cullettop_WholeBasis.j0 k a0 t140 (t147 != (wrap64 (Go.bits .xor .u16 a0 a1))))) else (cullettop_WholeBasis.j0 k a0 t140 true))) else (cullettop_WholeBasis.j0 k a0 t140 true)) else (cullettop_WholeBasis.j0 k a0 t140 true)) else (cullettop_WholeBasis.j0 k a0 t140 true)) else (cullettop_WholeBasis.j0 k a0 t140 true)))) = some r := H
  have A3 := Aside0.mk A30
  clear A30
  replace H := Option.bind_eq_some_iff.mp H
  obtain ⟨⟨t142, t143⟩, A40, H⟩ := H
  replace H : ((gf16_Element.f (wrap64 (Go.bits .xor .u16 a0 a1))).bind fun bt144 => (if t141 = 0 then (if t143 = 0 then (if bt144.2 = 0 then (if bt144.1 = (Go.bits .xor .u16 t140 t142) then ((gf16_Index.f t140).bind fun t146 => (if t146 = (wrap64 (a0)) then ((gf16_Index.f bt144.1).bind fun t147 => (cullettop_WholeBasis.j0 k a0 t140 (t147 != (wrap64 (Go.bits .xor .u16 a0 a1))))) else (cullettop_WholeBasis.j0 k a0 t140 true))) else (cullettop_WholeBasis.j0 k a0 t140 true)) else (cullettop_WholeBasis.j0 k a0 t140 true)) else (cullettop_WholeBasis.j0 k a0 t140 true)) else (cullettop_WholeBasis.j0 k a0 t140 true))) = some r := H
  have A4 := Aside0.mk A40
  clear A40
  replace H := Option.bind_eq_some_iff.mp H
  obtain ⟨⟨t144, t145⟩, A50, H⟩ := H
  replace H : (if t141 = 0 then (if t143 = 0 then (if t145 = 0 then (if t144 = (Go.bits .xor .u16 t140 t142) then ((gf16_Index.f t140).bind fun t146 => (if t146 = (wrap64 (a0)) then ((gf16_Index.f t144).bind fun t147 => (cullettop_WholeBasis.j0 k a0 t140 (t147 != (wrap64 (Go.bits .xor .u16 a0 a1))))) else (cullettop_WholeBasis.j0 k a0 t140 true))) else (cullettop_WholeBasis.j0 k a0 t140 true)) else (cullettop_WholeBasis.j0 k a0 t140 true)) else (cullettop_WholeBasis.j0 k a0 t140 true)) else (cullettop_WholeBasis.j0 k a0 t140 true)) = some r := H
  have A5 := Aside0.mk A50
  clear A50
  have HC6 := Aside0.mk H
  clear H
  go_enter Try.func9, Try.ntmps9
  go_upto_region 4 with (first | ((with_reducible refine gate_callee (f := 22) rfl ?_); refine goesL_ (some 20) rfl rfl Try.func22 (by kernel_rfl) rfl #[.int .i64 (wrap64 (a0))] rfl (by (try simp only [List.map_toArray, List.map_cons, List.map_nil]); first | done | rfl | (simp only [List.length_drop, List.length_take]; rfl)) ?_; (with_reducible refine (gf16_Element.calls (wrap64 (a0)) t140 t141 _ A3.out).mono ?_); rintro e w7 ⟨rfl, hb⟩; refine ⟨_, rfl, ?_⟩; have n0_ := Aside0.mk (below_step (by repeat (first | (with_reducible first | exact HB.out | apply below_alloc | apply pw_below_drewN | apply below_drew1) | exact HB.out)) hb); clear HB; have HB := n0_; clear n0_; (try clear hb); (try clear hb2); (try clear hk); (try clear hi)) | ((with_reducible refine gate_callee (f := 22) rfl ?_); refine goesL_ (some 26) rfl rfl Try.func22 (by kernel_rfl) rfl #[.int .i64 (wrap64 (a1))] rfl (by (try simp only [List.map_toArray, List.map_cons, List.map_nil]); first | done | rfl | (simp only [List.length_drop, List.length_take]; rfl)) ?_; (with_reducible refine (gf16_Element.calls (wrap64 (a1)) t142 t143 _ A4.out).mono ?_); rintro e w8 ⟨rfl, hb⟩; refine ⟨_, rfl, ?_⟩; have n0_ := Aside0.mk (below_step (by repeat (first | (with_reducible first | exact HB.out | apply below_alloc | apply pw_below_drewN | apply below_drew1) | exact HB.out)) hb); clear HB; have HB := n0_; clear n0_; (try clear hb); (try clear hb2); (try clear hk); (try clear hi)) | ((with_reducible refine gate_callee (f := 22) rfl ?_); refine goesL_ (some 34) rfl rfl Try.func22 (by kernel_rfl) rfl #[.int .i64 (wrap64 (Go.bits .xor .u16 a0 a1))] rfl (by (try simp only [List.map_toArray, List.map_cons, List.map_nil]); first | done | rfl | (simp only [List.length_drop, List.length_take]; rfl)) ?_; (with_reducible refine (gf16_Element.calls (wrap64 (Go.bits .xor .u16 a0 a1)) t144 t145 _ A5.out).mono ?_); rintro e w9 ⟨rfl, hb⟩; refine ⟨_, rfl, ?_⟩; have n0_ := Aside0.mk (below_step (by repeat (first | (with_reducible first | exact HB.out | apply below_alloc | apply pw_below_drewN | apply below_drew1) | exact HB.out)) hb); clear HB; have HB := n0_; clear n0_; (try clear hb); (try clear hb2); (try clear hk); (try clear hi)))
  (try simp only [Act.put, List.setIfInBounds_toArray, List.set_cons_zero, List.set_cons_succ])
  go_cut [69] (fun v69 wc => ∃ (kq : Nat) (x69_5 : Bool), v69 = .bool x69_5 ∧ Aside0 (cullettop_WholeBasis.j0 kq a0 t140 x69_5 = some r) ∧ Aside0 (kq ≤ k) ∧ Aside0 (Below w.heap.size w wc))
  case first =>
    have H := HC6.out
    clear HC6
    by_cases c10 : t141 = 0
    · rw [if_pos c10] at H
      have c10b0 : (t141 == 0) = true := beq_iff_eq.mpr c10
      have c10b1 : (t141 != 0) = false := bne_eq_false_iff_eq.mpr c10
      clear c10
      (first | rw [c10b0] | (simp only [i64_w, i32_w]; rw [c10b0]) | skip)
      by_cases c11 : t143 = 0
      · rw [if_pos c11] at H
        have c11b0 : (t143 == 0) = true := beq_iff_eq.mpr c11
        have c11b1 : (t143 != 0) = false := bne_eq_false_iff_eq.mpr c11
        clear c11
        by_cases c12 : t145 = 0
        · rw [if_pos c12] at H
          have c12b0 : (t145 == 0) = true := beq_iff_eq.mpr c12
          have c12b1 : (t145 != 0) = false := bne_eq_false_iff_eq.mpr c12
          clear c12
          by_cases c13 : t144 = (Go.bits .xor .u16 t140 t142)
          · rw [if_pos c13] at H
            have c13b0 : (t144 == (Go.bits .xor .u16 t140 t142)) = true := beq_iff_eq.mpr c13
            have c13b1 : (t144 != (Go.bits .xor .u16 t140 t142)) = false := bne_eq_false_iff_eq.mpr c13
            clear c13
            replace H := Option.bind_eq_some_iff.mp H
            obtain ⟨t146, A140, H⟩ := H
            replace H : (if t146 = (wrap64 (a0)) then ((gf16_Index.f t144).bind fun t147 => (cullettop_WholeBasis.j0 k a0 t140 (t147 != (wrap64 (Go.bits .xor .u16 a0 a1))))) else (cullettop_WholeBasis.j0 k a0 t140 true)) = some r := H
            have A14 := Aside0.mk A140
            clear A140
            by_cases c15 : t146 = (wrap64 (a0))
            · rw [if_pos c15] at H
              have c15b0 : (t146 == (wrap64 (a0))) = true := beq_iff_eq.mpr c15
              have c15b1 : (t146 != (wrap64 (a0))) = false := bne_eq_false_iff_eq.mpr c15
              clear c15
              replace H := Option.bind_eq_some_iff.mp H
              obtain ⟨t147, A160, H⟩ := H
              replace H : (cullettop_WholeBasis.j0 k a0 t140 (t147 != (wrap64 (Go.bits .xor .u16 a0 a1)))) = some r := H
              have A16 := Aside0.mk A160
              clear A160
              have H' := Aside0.mk H
              clear H
              go_wp2_with (first | (go_at_call 23; (with_reducible refine (gf16_Index.calls t140 t146 _ A14.out).mono ?_); rintro e w17 ⟨rfl, hb⟩; have n0_ := Aside0.mk (below_step (by repeat (first | (with_reducible first | exact HB.out | apply below_alloc | apply pw_below_drewN | apply below_drew1) | exact HB.out)) hb); clear HB; have HB := n0_; clear n0_; (try clear hb); (try clear hb2); (try clear hk); (try clear hi)) | (go_at_call 23; (with_reducible refine (gf16_Index.calls t144 t147 _ A16.out).mono ?_); rintro e w18 ⟨rfl, hb⟩; have n0_ := Aside0.mk (below_step (by repeat (first | (with_reducible first | exact HB.out | apply below_alloc | apply pw_below_drewN | apply below_drew1) | exact HB.out)) hb); clear HB; have HB := n0_; clear n0_; (try clear hb); (try clear hb2); (try clear hk); (try clear hi)))
              go_meet
              case rel => exact ⟨_, ((t147 != (wrap64 (Go.bits .xor .u16 a0 a1)))), (by first | rfl | (simp; done) | (simp [*]; done)), H', ⟨by first | omega | exact Nat.le_refl _⟩, ⟨by repeat (first | (with_reducible first | exact HB.out | apply below_alloc | apply pw_below_drewN | apply below_drew1) | exact HB.out)⟩⟩
            · rw [if_neg c15] at H
              have c15b0 : (t146 == (wrap64 (a0))) = false := beq_eq_false_iff_ne.mpr c15
              have c15b1 : (t146 != (wrap64 (a0))) = true := bne_iff_ne.mpr c15
              have H' := Aside0.mk H
              clear H
              go_wp2_with (first | (go_at_call 23; (with_reducible refine (gf16_Index.calls t140 t146 _ A14.out).mono ?_); rintro e w19 ⟨rfl, hb⟩; have n0_ := Aside0.mk (below_step (by repeat (first | (with_reducible first | exact HB.out | apply below_alloc | apply pw_below_drewN | apply below_drew1) | exact HB.out)) hb); clear HB; have HB := n0_; clear n0_; (try clear hb); (try clear hb2); (try clear hk); (try clear hi)))
              go_meet
              case rel => exact ⟨_, (true), (by first | rfl | (simp; done) | (simp [*]; done)), H', ⟨by first | omega | exact Nat.le_refl _⟩, ⟨by repeat (first | (with_reducible first | exact HB.out | apply below_alloc | apply pw_below_drewN | apply below_drew1) | exact HB.out)⟩⟩
          · rw [if_neg c13] at H
            have c13b0 : (t144 == (Go.bits .xor .u16 t140 t142)) = false := beq_eq_false_iff_ne.mpr c13
            have c13b1 : (t144 != (Go.bits .xor .u16 t140 t142)) = true := bne_iff_ne.mpr c13
            have H' := Aside0.mk H
            clear H
            go_wp2
            go_meet
            case rel => exact ⟨_, (true), (by first | rfl | (simp; done) | (simp [*]; done)), H', ⟨by first | omega | exact Nat.le_refl _⟩, ⟨by repeat (first | (with_reducible first | exact HB.out | apply below_alloc | apply pw_below_drewN | apply below_drew1) | exact HB.out)⟩⟩
        · rw [if_neg c12] at H
          have c12b0 : (t145 == 0) = false := beq_eq_false_iff_ne.mpr c12
          have c12b1 : (t145 != 0) = true := bne_iff_ne.mpr c12
          have H' := Aside0.mk H
          clear H
          go_wp2
          go_meet
          case rel => exact ⟨_, (true), (by first | rfl | (simp; done) | (simp [*]; done)), H', ⟨by first | omega | exact Nat.le_refl _⟩, ⟨by repeat (first | (with_reducible first | exact HB.out | apply below_alloc | apply pw_below_drewN | apply below_drew1) | exact HB.out)⟩⟩
      · rw [if_neg c11] at H
        have c11b0 : (t143 == 0) = false := beq_eq_false_iff_ne.mpr c11
        have c11b1 : (t143 != 0) = true := bne_iff_ne.mpr c11
        have H' := Aside0.mk H
        clear H
        go_wp2
        go_meet
        case rel => exact ⟨_, (true), (by first | rfl | (simp; done) | (simp [*]; done)), H', ⟨by first | omega | exact Nat.le_refl _⟩, ⟨by repeat (first | (with_reducible first | exact HB.out | apply below_alloc | apply pw_below_drewN | apply below_drew1) | exact HB.out)⟩⟩
    · rw [if_neg c10] at H
      have c10b0 : (t141 == 0) = false := beq_eq_false_iff_ne.mpr c10
      have c10b1 : (t141 != 0) = true := bne_iff_ne.mpr c10
      (first | rw [c10b0] | (simp only [i64_w, i32_w]; rw [c10b0]) | skip)
      have H' := Aside0.mk H
      clear H
      go_wp2
      go_meet
      case rel => exact ⟨_, (true), (by first | rfl | (simp; done) | (simp [*]; done)), H', ⟨by first | omega | exact Nat.le_refl _⟩, ⟨by repeat (first | (with_reducible first | exact HB.out | apply below_alloc | apply pw_below_drewN | apply below_drew1) | exact HB.out)⟩⟩
  case rest =>
    clear HC6
    try clear c1
    try clear c2
    try clear p2
    try clear p6
    try clear c9
    try clear c10
    try clear c10b0
    try clear c10b1
    try clear c11
    try clear c11b0
    try clear c11b1
    try clear c12
    try clear c12b0
    try clear c12b1
    try clear c13
    try clear c13b0
    try clear c13b1
    try clear c15
    try clear c15b0
    try clear c15b1
    obtain ⟨kq, x69_5, rfl, HA, HJ5, HB⟩ := hcut
    cases kq with
    | zero => exact absurd HA.out (by simp [cullettop_WholeBasis.j0])
    | succ kj5 =>
      have H := HA.out
      clear HA
      simp only [cullettop_WholeBasis.j0] at H
      by_cases c20 : x69_5 = true
      · subst c20
        have H1 : (some false) = some r := by rw [if_pos rfl] at H; exact H
        clear H
        have H := H1
        clear H1
        obtain rfl := Option.some.inj H
        go_wp2
        go_ret
        exact ⟨by first | rfl | (simp [errW_none, errW_some] <;> rfl) | (simp [*, errW_none, errW_some] <;> rfl), by repeat (first | (with_reducible first | exact HB.out | apply below_alloc | apply pw_below_drewN | apply below_drew1) | exact HB.out)⟩
      · replace c20 := Bool.eq_false_iff.mpr c20
        subst c20
        have H1 : ((gf16_Basis.f).bind fun t148 => (if (t148.length : Int) = 16 then (if 0 < (t148.length : Int) then (cullettop_WholeBasis.j1 kj5 a0 t140 t148 ((rd t148 0) != 1)) else (none)) else (cullettop_WholeBasis.j1 kj5 a0 t140 t148 true))) = some r := by rw [if_neg (show ¬ (false = true) by decide)] at H; exact H
        clear H
        have H := H1
        clear H1
        replace H := Option.bind_eq_some_iff.mp H
        obtain ⟨t148, A210, H⟩ := H
        replace H : (if (t148.length : Int) = 16 then (if 0 < (t148.length : Int) then (cullettop_WholeBasis.j1 kj5 a0 t140 t148 ((rd t148 0) != 1)) else (none)) else (cullettop_WholeBasis.j1 kj5 a0 t140 t148 true)) = some r := H
        have A21 := Aside0.mk A210
        clear A210
        have HC22 := Aside0.mk H
        clear H
        go_upto_region 7 with (first | ((with_reducible refine gate_callee (f := 28) rfl ?_); refine goesL_ (some 70) rfl rfl Try.func28 (by kernel_rfl) rfl #[] rfl (by (try simp only [List.map_toArray, List.map_cons, List.map_nil]); first | done | rfl | (simp only [List.length_drop, List.length_take]; rfl)) ?_; (with_reducible refine (gf16_Basis.calls  t148 _ A21.out).mono ?_); rintro e w23 ⟨v149, rfl, ho0, hb⟩; refine ⟨_, rfl, ?_⟩; have n0_ := Aside0.mk (Kd.R_lower ho0 (below_size (by repeat (first | (with_reducible first | exact HB.out | apply below_alloc | apply pw_below_drewN | apply below_drew1) | exact HB.out)))); have n1_ := Aside0.mk (below_step (by repeat (first | (with_reducible first | exact HB.out | apply below_alloc | apply pw_below_drewN | apply below_drew1) | exact HB.out)) hb); clear HB; have HO150 := n0_; have HB := n1_; clear n0_ n1_; (try clear hb); (try clear hb2); (try clear hk); (try clear hi); (try clear ho0)))
        (try simp only [Act.put, List.setIfInBounds_toArray, List.set_cons_zero, List.set_cons_succ])
        go_cut [79] (fun v79 wc => ∃ (kq : Nat) (x79_21 : Bool), v79 = .bool x79_21 ∧ Aside0 (cullettop_WholeBasis.j1 kq a0 t140 t148 x79_21 = some r) ∧ Aside0 (kq ≤ kj5) ∧ Aside0 (Kd.R (Kd.int .u16) 25 wc w.heap.size (fun _ => True) v149 t148) ∧ Aside0 (Below w.heap.size w wc))
        case first =>
          have H := HC22.out
          clear HC22
          by_cases c24 : (t148.length : Int) = 16
          · rw [if_pos c24] at H
            have c24b0 : ((t148.length : Int) == 16) = true := beq_iff_eq.mpr c24
            have c24b1 : ((t148.length : Int) != 16) = false := bne_eq_false_iff_eq.mpr c24
            clear c24
            (first | rw [c24b0] | (simp only [i64_w, i32_w]; rw [c24b0]) | skip)
            by_cases c25 : 0 < (t148.length : Int)
            · rw [if_pos c25] at H
              have c25b0 : decide (0 < (t148.length : Int)) = true := decide_eq_true c25
              have c25b1 : decide (0 < t148.length) = true := decide_eq_true (by omega)
              clear c25
              have H' := Aside0.mk H
              clear H
              obtain ⟨Ao26, co26, eo26⟩ := Kd.R_slice HO150.out
              subst eo26
              have p151 : 0 ≤ (0 : Int) := (by omega)
              have q151 : 0 < (t148.length : Int) := of_decide_eq_true (by first | (with_reducible assumption) | assumption)
              obtain ⟨ad151, e151, hx151_0⟩ := Kd.at_int (Kd.R_reads' HO150.out).2.2 0 p151 q151
              cases e151
              have qi151 : (0 < t148.length) = True := eq_true (by omega)
              (try rw [show ((0 : Int)).toNat = 0 from rfl] at hx151_0)
              (try rw [Addr.add_zero'] at hx151_0)
              replace p151 := eq_true p151
              replace q151 := eq_true q151
              go_wp2
              go_meet
              case rel => exact ⟨_, (((rd t148 0) != 1)), (by first | rfl | (simp; done) | (simp [*]; done)), H', ⟨by have := HJ5.out; first | omega | exact Nat.le_refl _⟩, ⟨by (with_reducible repeat (first | apply Kd.R_alloc | apply Kd.R_drewN | apply Kd.R_drew)); exact HO150.out⟩, ⟨by repeat (first | (with_reducible first | exact HB.out | apply below_alloc | apply pw_below_drewN | apply below_drew1) | exact HB.out)⟩⟩
            · rw [if_neg c25] at H
              exact absurd H (by simp)
          · rw [if_neg c24] at H
            have c24b0 : ((t148.length : Int) == 16) = false := beq_eq_false_iff_ne.mpr c24
            have c24b1 : ((t148.length : Int) != 16) = true := bne_iff_ne.mpr c24
            (first | rw [c24b0] | (simp only [i64_w, i32_w]; rw [c24b0]) | skip)
            have H' := Aside0.mk H
            clear H
            obtain ⟨Ao27, co27, eo27⟩ := Kd.R_slice HO150.out
            subst eo27
            go_wp2
            go_meet
            case rel => exact ⟨_, (true), (by first | rfl | (simp; done) | (simp [*]; done)), H', ⟨by have := HJ5.out; first | omega | exact Nat.le_refl _⟩, ⟨by (with_reducible repeat (first | apply Kd.R_alloc | apply Kd.R_drewN | apply Kd.R_drew)); exact HO150.out⟩, ⟨by repeat (first | (with_reducible first | exact HB.out | apply below_alloc | apply pw_below_drewN | apply below_drew1) | exact HB.out)⟩⟩
        case rest =>
          clear HC22
          try clear c1
          try clear p1
          try clear q1
          try clear hx1
          try clear qi1
          try clear c2
          try clear p2
          try clear p6
          try clear c9
          try clear c10
          try clear c10b0
          try clear c10b1
          try clear c11
          try clear c11b0
          try clear c11b1
          try clear c12
          try clear c12b0
          try clear c12b1
          try clear c13
          try clear c13b0
          try clear c13b1
          try clear c15
          try clear c15b0
          try clear c15b1
          try clear p15
          try clear q15
          try clear hx15
          try clear qi15
          try clear c20
          try clear c22
          try clear c24
          try clear c24b0
          try clear c24b1
          try clear c25
          try clear c25b0
          try clear c25b1
          try clear hx151_0
          try clear p151
          try clear p2
          try clear p6
          try clear q151
          obtain ⟨kq, x79_21, rfl, HA, HJ21, HO_11, HB⟩ := hcut
          cases kq with
          | zero => exact absurd HA.out (by simp [cullettop_WholeBasis.j1])
          | succ kj21 =>
            have H := HA.out
            clear HA
            simp only [cullettop_WholeBasis.j1] at H
            by_cases c28 : x79_21 = true
            · subst c28
              have H1 : (some false) = some r := by rw [if_pos rfl] at H; exact H
              clear H
              have H := H1
              clear H1
              obtain rfl := Option.some.inj H
              go_wp2
              go_ret
              exact ⟨by first | rfl | (simp [errW_none, errW_some] <;> rfl) | (simp [*, errW_none, errW_some] <;> rfl), by repeat (first | (with_reducible first | exact HB.out | apply below_alloc | apply pw_below_drewN | apply below_drew1) | exact HB.out)⟩
            · replace c28 := Bool.eq_false_iff.mpr c28
              subst c28
              have H1 : (cullettop_WholeBasis.l0 kj21 a0 t140 t148 0 t148 (t148.length : Int) 0) = some r := by rw [if_neg (show ¬ (false = true) by decide)] at H; exact H
              clear H
              have H := H1
              clear H1
              have H' := Aside0.mk H
              clear H
              obtain ⟨Ao29, co29, eo29⟩ := Kd.R_slice HO_11.out
              subst eo29
              go_wp2
              go_loopg [12, 82] kj21 (fun kq v12 v82 w' => ∃ (x12_3 : Int) (x82_3 : Int), v12 = .int .u16 x12_3 ∧ v82 = .int .i64 x82_3 ∧ Aside0 (cullettop_WholeBasis.l0 kq a0 t140 t148 x12_3 t148 (t148.length : Int) x82_3 = some r) ∧ Aside0 (kq ≤ kj21) ∧ Aside0 (Kd.R (Kd.int .u16) 25 w' w.heap.size (fun _ => True) (.slice Ao29 t148.length co29) t148) ∧ Aside0 (Kd.R (Kd.int .u16) 25 w' w.heap.size (fun _ => True) (.slice Ao29 t148.length co29) t148) ∧ Aside0 (Below w.heap.size w w'))
              case atStart => exact ⟨(0), (0), (by first | rfl | (simp; done) | (simp [*]; done)), (by first | rfl | (simp; done) | (simp [*]; done)), H', ⟨Nat.le_refl _⟩, ⟨by (with_reducible repeat (first | apply Kd.R_alloc | apply Kd.R_drewN | apply Kd.R_drew)); exact HO_11.out⟩, ⟨by (with_reducible repeat (first | apply Kd.R_alloc | apply Kd.R_drewN | apply Kd.R_drew)); exact HO_11.out⟩, ⟨by repeat (first | (with_reducible first | exact HB.out | apply below_alloc | apply pw_below_drewN | apply below_drew1) | exact HB.out)⟩⟩
              case round =>
                clear H'
                try clear c1
                try clear p1
                try clear q1
                try clear hx1
                try clear qi1
                try clear c2
                try clear p2
                try clear p6
                try clear c9
                try clear c10
                try clear c10b0
                try clear c10b1
                try clear c11
                try clear c11b0
                try clear c11b1
                try clear c12
                try clear c12b0
                try clear c12b1
                try clear c13
                try clear c13b0
                try clear c13b1
                try clear c15
                try clear c15b0
                try clear c15b1
                try clear p15
                try clear q15
                try clear hx15
                try clear qi15
                try clear c20
                try clear c22
                try clear c24
                try clear c24b0
                try clear c24b1
                try clear c25
                try clear c25b0
                try clear c25b1
                try clear c28
                try clear hx151_0
                try clear p1
                try clear p15
                try clear p151
                try clear p2
                try clear p6
                try clear q1
                try clear q15
                try clear q151
                obtain ⟨x12_3, x82_3, rfl, rfl, HA, HK3, HO_11, HO_80, HB⟩ := hrel
                cases gk with
                | zero => exact absurd HA.out (by simp [cullettop_WholeBasis.l0])
                | succ k3 =>
                  have H := HA.out
                  clear HA
                  simp only [cullettop_WholeBasis.l0] at H
                  by_cases c30 : x82_3 < (t148.length : Int)
                  · rw [if_pos c30] at H
                    have c30b0 : decide (x82_3 < (t148.length : Int)) = true := decide_eq_true c30
                    clear c30
                    by_cases c31 : 0 ≤ x82_3
                    · rw [if_pos c31] at H
                      have c31b0 : decide (0 ≤ x82_3) = true := decide_eq_true c31
                      clear c31
                      by_cases c32 : x82_3 < (t148.length : Int)
                      · rw [if_pos c32] at H
                        have c32b0 : decide (x82_3 < (t148.length : Int)) = true := decide_eq_true c32
                        clear c32
                        have c33b0 := eq_true (of_decide_eq_true (by first | (with_reducible assumption) | assumption) : 0 ≤ x82_3)
                        obtain ⟨ji34, hji34⟩ : ∃ j_ : Int, (shr .u16 a0 x82_3) = j_ := ⟨_, rfl⟩
                        replace H : (if (Go.bits .and .u16 (ji34) 1) = 1 then (cullettop_WholeBasis.j3 k3 a0 t140 t148 (Go.bits .xor .u16 x12_3 (rd t148 x82_3)) x82_3 (rd t148 x82_3) t148 (t148.length : Int) x82_3) else (cullettop_WholeBasis.j3 k3 a0 t140 t148 x12_3 x82_3 (rd t148 x82_3) t148 (t148.length : Int) x82_3)) = some r := by first | (rw [hji34] at H; exact H) | (simp only [hji34] at H ⊢; exact H)
                        have hji34_ : (a0 / 2 ^ min x82_3.toNat 16) = ji34 := hji34
                        have hji34z : x82_3 ≤ 16 → (a0 / 2 ^ x82_3.toNat) = ji34 := shr_small hji34
                        have HC35 := Aside0.mk H
                        clear H
                        have p152 : 0 ≤ (x82_3 : Int) := of_decide_eq_true (by first | (with_reducible assumption) | assumption)
                        have q152 : x82_3 < (t148.length : Int) := of_decide_eq_true (by first | (with_reducible assumption) | assumption)
                        obtain ⟨ad152, e152, hx152_0⟩ := Kd.at_int (Kd.R_reads' HO_80.out).2.2 x82_3 p152 q152
                        cases e152
                        replace p152 := eq_true p152
                        replace q152 := eq_true q152
                        go_upto_if 91 with (fail)
                        go_cut [12] (fun v12 wc => ∃ (kq : Nat) (x12_34 : Int), v12 = .int .u16 x12_34 ∧ Aside0 (cullettop_WholeBasis.j3 kq a0 t140 t148 x12_34 x82_3 (rd t148 x82_3) t148 (t148.length : Int) x82_3 = some r) ∧ Aside0 (kq ≤ k3) ∧ Aside0 (Kd.R (Kd.int .u16) 25 wc w.heap.size (fun _ => True) (.slice (some ad152) t148.length co29) t148) ∧ Aside0 (Kd.R (Kd.int .u16) 25 wc w.heap.size (fun _ => True) (.slice (some ad152) t148.length co29) t148) ∧ Aside0 (Below w.heap.size w wc))
                        case first =>
                          have H := HC35.out
                          clear HC35
                          by_cases c36 : (Go.bits .and .u16 (ji34) 1) = 1
                          · rw [if_pos c36] at H
                            have c36b0 : ((Go.bits .and .u16 (ji34) 1) == 1) = true := beq_iff_eq.mpr c36
                            have c36b1 : ((Go.bits .and .u16 (ji34) 1) != 1) = false := bne_eq_false_iff_eq.mpr c36
                            clear c36
                            (first | rw [c36b0] | (simp only [i64_w, i32_w]; rw [c36b0]) | skip)
                            have H' := Aside0.mk H
                            clear H
                            go_wp2
                            go_meet
                            case rel => exact ⟨_, (Go.bits .xor .u16 x12_3 (rd t148 x82_3)), (by first | rfl | (simp; done) | (simp [*]; done)), H', ⟨by have := HJ5.out; have := HJ21.out; have := HK3.out; first | omega | exact Nat.le_refl _⟩, ⟨by (with_reducible repeat (first | apply Kd.R_alloc | apply Kd.R_drewN | apply Kd.R_drew)); exact HO_11.out⟩, ⟨by (with_reducible repeat (first | apply Kd.R_alloc | apply Kd.R_drewN | apply Kd.R_drew)); exact HO_80.out⟩, ⟨by repeat (first | (with_reducible first | exact HB.out | apply below_alloc | apply pw_below_drewN | apply below_drew1) | exact HB.out)⟩⟩
                          · rw [if_neg c36] at H
                            have c36b0 : ((Go.bits .and .u16 (ji34) 1) == 1) = false := beq_eq_false_iff_ne.mpr c36
                            have c36b1 : ((Go.bits .and .u16 (ji34) 1) != 1) = true := bne_iff_ne.mpr c36
                            (first | rw [c36b0] | (simp only [i64_w, i32_w]; rw [c36b0]) | skip)
                            have H' := Aside0.mk H
                            clear H
                            go_wp2
                            go_meet
                            case rel => exact ⟨_, (x12_3), (by first | rfl | (simp; done) | (simp [*]; done)), H', ⟨by have := HJ5.out; have := HJ21.out; have := HK3.out; first | omega | exact Nat.le_refl _⟩, ⟨by (with_reducible repeat (first | apply Kd.R_alloc | apply Kd.R_drewN | apply Kd.R_drew)); exact HO_11.out⟩, ⟨by (with_reducible repeat (first | apply Kd.R_alloc | apply Kd.R_drewN | apply Kd.R_drew)); exact HO_80.out⟩, ⟨by repeat (first | (with_reducible first | exact HB.out | apply below_alloc | apply pw_below_drewN | apply below_drew1) | exact HB.out)⟩⟩
                        case rest =>
                          clear HC35
                          try clear c1
                          try clear p1
                          try clear q1
                          try clear hx1
                          try clear qi1
                          try clear c2
                          try clear p2
                          try clear c3
                          try clear p6
                          try clear c9
                          try clear c10
                          try clear c10b0
                          try clear c10b1
                          try clear c11
                          try clear c11b0
                          try clear c11b1
                          try clear c12
                          try clear c12b0
                          try clear c12b1
                          try clear c13
                          try clear c13b0
                          try clear c13b1
                          try clear c15
                          try clear c15b0
                          try clear c15b1
                          try clear p15
                          try clear q15
                          try clear hx15
                          try clear qi15
                          try clear c20
                          try clear c22
                          try clear c24
                          try clear c24b0
                          try clear c24b1
                          try clear c25
                          try clear c25b0
                          try clear c25b1
                          try clear c28
                          try clear c30
                          try clear c30b0
                          try clear c31
                          try clear c31b0
                          try clear c32
                          try clear c32b0
                          try clear c33
                          try clear c33b0
                          try clear c36
                          try clear c36b0
                          try clear c36b1
                          try clear hx151_0
                          try clear hx152_0
                          try clear p1
                          try clear p15
                          try clear p151
                          try clear p152
                          try clear p2
                          try clear p6
                          try clear q1
                          try clear q15
                          try clear q151
                          try clear q152
                          obtain ⟨kq, x12_34, rfl, HA, HJ34, HO_11, HO_80, HB⟩ := hcut
                          cases kq with
                          | zero => exact absurd HA.out (by simp [cullettop_WholeBasis.j3])
                          | succ kj34 =>
                            have H := HA.out
                            clear HA
                            simp only [cullettop_WholeBasis.j3] at H
                            by_cases c37 : x82_3 = 0
                            · rw [if_pos c37] at H
                              have c37b0 : (x82_3 == 0) = true := beq_iff_eq.mpr c37
                              have c37b1 : (x82_3 != 0) = false := bne_eq_false_iff_eq.mpr c37
                              clear c37
                              have H' := Aside0.mk H
                              clear H
                              go_wp2
                              go_roundg kj34
                              case measure => have := HJ5.out; have := HJ21.out; have := HK3.out; have := HJ34.out; omega
                              case rel => exact ⟨(x12_34), (wrap64 (x82_3 + 1)), (by first | rfl | (simp; done) | (simp [*]; done)), (by first | rfl | (simp; done) | (simp [*]; done)), H', ⟨by have := HJ5.out; have := HJ21.out; have := HK3.out; have := HJ34.out; omega⟩, ⟨by (with_reducible repeat (first | apply Kd.R_alloc | apply Kd.R_drewN | apply Kd.R_drew)); exact HO_11.out⟩, ⟨by (with_reducible repeat (first | apply Kd.R_alloc | apply Kd.R_drewN | apply Kd.R_drew)); exact HO_80.out⟩, ⟨by repeat (first | (with_reducible first | exact HB.out | apply below_alloc | apply pw_below_drewN | apply below_drew1) | exact HB.out)⟩⟩
                            · rw [if_neg c37] at H
                              have c37b0 : (x82_3 == 0) = false := beq_eq_false_iff_ne.mpr c37
                              have c37b1 : (x82_3 != 0) = true := bne_iff_ne.mpr c37
                              replace H := Option.bind_eq_some_iff.mp H
                              obtain ⟨⟨t153, t154⟩, A380, H⟩ := H
                              replace H : (if t154 = 0 then (if (Go.bits .and .u16 (rd t148 x82_3) 1) = 1 then (some false) else (if 0 ≤ (wrap64 (x82_3 - 1)) then (if (wrap64 (x82_3 - 1)) < (t148.length : Int) then (if (Go.bits .xor .u16 (IntKind.u16.wrap (t153)) (rd t148 x82_3)) = (rd t148 (wrap64 (x82_3 - 1))) then (cullettop_WholeBasis.l0 kj34 a0 t140 t148 x12_34 t148 (t148.length : Int) (wrap64 (x82_3 + 1))) else (some false)) else (none)) else (none))) else (some false)) = some r := H
                              have A38 := Aside0.mk A380
                              clear A380
                              by_cases c39 : t154 = 0
                              · rw [if_pos c39] at H
                                have c39b0 : (t154 == 0) = true := beq_iff_eq.mpr c39
                                have c39b1 : (t154 != 0) = false := bne_eq_false_iff_eq.mpr c39
                                clear c39
                                by_cases c40 : (Go.bits .and .u16 (rd t148 x82_3) 1) = 1
                                · rw [if_pos c40] at H
                                  have c40b0 : ((Go.bits .and .u16 (rd t148 x82_3) 1) == 1) = true := beq_iff_eq.mpr c40
                                  have c40b1 : ((Go.bits .and .u16 (rd t148 x82_3) 1) != 1) = false := bne_eq_false_iff_eq.mpr c40
                                  clear c40
                                  obtain rfl := Option.some.inj H
                                  go_wp2_with (first | ((with_reducible refine gate_callee (f := 29) rfl ?_); refine goesL_ (some 102) rfl rfl Try.func29 (by kernel_rfl) rfl #[.int .u64 (IntKind.u64.wrap ((rd t148 x82_3))), .int .u64 (IntKind.u64.wrap ((rd t148 x82_3))), .int .u64 65581] rfl (by (try simp only [List.map_toArray, List.map_cons, List.map_nil]); first | done | rfl | (simp only [List.length_drop, List.length_take]; rfl)) ?_; (with_reducible refine (ring_MulMod.calls kj34 (IntKind.u64.wrap ((rd t148 x82_3))) (IntKind.u64.wrap ((rd t148 x82_3))) 65581 t153 t154 _ A38.out).mono ?_); rintro e w' ⟨rfl, ⟨nd, rfl⟩⟩; refine ⟨_, rfl, ?_⟩))
                                  go_ret
                                  exact ⟨by first | rfl | (simp [errW_none, errW_some] <;> rfl) | (simp only [← hji34]; first | rfl | (simp [errW_none, errW_some] <;> rfl)) | (simp [*, errW_none, errW_some] <;> rfl), by repeat (first | (with_reducible first | exact HB.out | apply below_alloc | apply pw_below_drewN | apply below_drew1) | exact HB.out)⟩
                                · rw [if_neg c40] at H
                                  have c40b0 : ((Go.bits .and .u16 (rd t148 x82_3) 1) == 1) = false := beq_eq_false_iff_ne.mpr c40
                                  have c40b1 : ((Go.bits .and .u16 (rd t148 x82_3) 1) != 1) = true := bne_iff_ne.mpr c40
                                  obtain ⟨ji41, hji41⟩ : ∃ j_ : Int, (wrap64 (x82_3 - 1)) = j_ := ⟨_, rfl⟩
                                  replace H : (if 0 ≤ (ji41) then (if (ji41) < (t148.length : Int) then (if (Go.bits .xor .u16 (IntKind.u16.wrap (t153)) (rd t148 x82_3)) = (rd t148 (ji41)) then (cullettop_WholeBasis.l0 kj34 a0 t140 t148 x12_34 t148 (t148.length : Int) (wrap64 (x82_3 + 1))) else (some false)) else (none)) else (none)) = some r := by first | (rw [hji41] at H; exact H) | (simp only [hji41] at H ⊢; exact H)
                                  (try rw [hji41] at A38)
                                  have hji41w : (IntKind.i64.wrap (x82_3 - 1)) = ji41 := (i64_w _).trans hji41
                                  by_cases c42 : 0 ≤ (ji41)
                                  · rw [if_pos c42] at H
                                    have c42b0 : decide (0 ≤ (ji41)) = true := decide_eq_true c42
                                    clear c42
                                    by_cases c43 : (ji41) < (t148.length : Int)
                                    · rw [if_pos c43] at H
                                      have c43b0 : decide ((ji41) < (t148.length : Int)) = true := decide_eq_true c43
                                      clear c43
                                      by_cases c44 : (Go.bits .xor .u16 (IntKind.u16.wrap (t153)) (rd t148 x82_3)) = (rd t148 (ji41))
                                      · rw [if_pos c44] at H
                                        have c44b0 : ((Go.bits .xor .u16 (IntKind.u16.wrap (t153)) (rd t148 x82_3)) == (rd t148 (ji41))) = true := beq_iff_eq.mpr c44
                                        have c44b1 : ((Go.bits .xor .u16 (IntKind.u16.wrap (t153)) (rd t148 x82_3)) != (rd t148 (ji41))) = false := bne_eq_false_iff_eq.mpr c44
                                        clear c44
                                        have H' := Aside0.mk H
                                        clear H
                                        go_wp2_with (first | ((with_reducible refine gate_callee (f := 29) rfl ?_); refine goesL_ (some 102) rfl rfl Try.func29 (by kernel_rfl) rfl #[.int .u64 (IntKind.u64.wrap ((rd t148 x82_3))), .int .u64 (IntKind.u64.wrap ((rd t148 x82_3))), .int .u64 65581] rfl (by (try simp only [List.map_toArray, List.map_cons, List.map_nil]); first | done | rfl | (simp only [List.length_drop, List.length_take]; rfl)) ?_; (with_reducible refine (ring_MulMod.calls kj34 (IntKind.u64.wrap ((rd t148 x82_3))) (IntKind.u64.wrap ((rd t148 x82_3))) 65581 t153 t154 _ A38.out).mono ?_); rintro e w' ⟨rfl, ⟨nd, rfl⟩⟩; refine ⟨_, rfl, ?_⟩; have p155 : 0 ≤ ((ji41) : Int) := of_decide_eq_true (by first | (with_reducible assumption) | assumption); have q155 : (ji41) < (t148.length : Int) := of_decide_eq_true (by first | (with_reducible assumption) | assumption); obtain ⟨ad155, e155, hx155_0⟩ := Kd.at_int (Kd.R_reads' HO_11.out).2.2 (ji41) p155 q155; obtain rfl : ad152 = ad155 := (by injection e155); replace p155 := eq_true p155; replace q155 := eq_true q155))
                                        go_roundg kj34
                                        case measure => have := HJ5.out; have := HJ21.out; have := HK3.out; have := HJ34.out; omega
                                        case rel => exact ⟨(x12_34), (wrap64 (x82_3 + 1)), (by first | rfl | (simp; done) | (simp [*]; done)), (by first | rfl | (simp; done) | (simp [*]; done)), H', ⟨by have := HJ5.out; have := HJ21.out; have := HK3.out; have := HJ34.out; omega⟩, ⟨by (with_reducible repeat (first | apply Kd.R_alloc | apply Kd.R_drewN | apply Kd.R_drew)); exact HO_11.out⟩, ⟨by (with_reducible repeat (first | apply Kd.R_alloc | apply Kd.R_drewN | apply Kd.R_drew)); exact HO_80.out⟩, ⟨by repeat (first | (with_reducible first | exact HB.out | apply below_alloc | apply pw_below_drewN | apply below_drew1) | exact HB.out)⟩⟩
                                      · rw [if_neg c44] at H
                                        have c44b0 : ((Go.bits .xor .u16 (IntKind.u16.wrap (t153)) (rd t148 x82_3)) == (rd t148 (ji41))) = false := beq_eq_false_iff_ne.mpr c44
                                        have c44b1 : ((Go.bits .xor .u16 (IntKind.u16.wrap (t153)) (rd t148 x82_3)) != (rd t148 (ji41))) = true := bne_iff_ne.mpr c44
                                        obtain rfl := Option.some.inj H
                                        go_wp2_with (first | ((with_reducible refine gate_callee (f := 29) rfl ?_); refine goesL_ (some 102) rfl rfl Try.func29 (by kernel_rfl) rfl #[.int .u64 (IntKind.u64.wrap ((rd t148 x82_3))), .int .u64 (IntKind.u64.wrap ((rd t148 x82_3))), .int .u64 65581] rfl (by (try simp only [List.map_toArray, List.map_cons, List.map_nil]); first | done | rfl | (simp only [List.length_drop, List.length_take]; rfl)) ?_; (with_reducible refine (ring_MulMod.calls kj34 (IntKind.u64.wrap ((rd t148 x82_3))) (IntKind.u64.wrap ((rd t148 x82_3))) 65581 t153 t154 _ A38.out).mono ?_); rintro e w' ⟨rfl, ⟨nd, rfl⟩⟩; refine ⟨_, rfl, ?_⟩; have p155 : 0 ≤ ((ji41) : Int) := of_decide_eq_true (by first | (with_reducible assumption) | assumption); have q155 : (ji41) < (t148.length : Int) := of_decide_eq_true (by first | (with_reducible assumption) | assumption); obtain ⟨ad155, e155, hx155_0⟩ := Kd.at_int (Kd.R_reads' HO_11.out).2.2 (ji41) p155 q155; obtain rfl : ad152 = ad155 := (by injection e155); replace p155 := eq_true p155; replace q155 := eq_true q155))
                                        go_ret
                                        exact ⟨by first | rfl | (simp [errW_none, errW_some] <;> rfl) | (simp only [← hji34, ← hji41]; first | rfl | (simp [errW_none, errW_some] <;> rfl)) | (simp [*, errW_none, errW_some] <;> rfl), by repeat (first | (with_reducible first | exact HB.out | apply below_alloc | apply pw_below_drewN | apply below_drew1) | exact HB.out)⟩
                                    · rw [if_neg c43] at H
                                      exact absurd H (by simp)
                                  · rw [if_neg c42] at H
                                    exact absurd H (by simp)
                              · rw [if_neg c39] at H
                                have c39b0 : (t154 == 0) = false := beq_eq_false_iff_ne.mpr c39
                                have c39b1 : (t154 != 0) = true := bne_iff_ne.mpr c39
                                obtain rfl := Option.some.inj H
                                go_wp2_with (first | ((with_reducible refine gate_callee (f := 29) rfl ?_); refine goesL_ (some 102) rfl rfl Try.func29 (by kernel_rfl) rfl #[.int .u64 (IntKind.u64.wrap ((rd t148 x82_3))), .int .u64 (IntKind.u64.wrap ((rd t148 x82_3))), .int .u64 65581] rfl (by (try simp only [List.map_toArray, List.map_cons, List.map_nil]); first | done | rfl | (simp only [List.length_drop, List.length_take]; rfl)) ?_; (with_reducible refine (ring_MulMod.calls kj34 (IntKind.u64.wrap ((rd t148 x82_3))) (IntKind.u64.wrap ((rd t148 x82_3))) 65581 t153 t154 _ A38.out).mono ?_); rintro e w' ⟨rfl, ⟨nd, rfl⟩⟩; refine ⟨_, rfl, ?_⟩))
                                go_ret
                                exact ⟨by first | rfl | (simp [errW_none, errW_some] <;> rfl) | (simp only [← hji34]; first | rfl | (simp [errW_none, errW_some] <;> rfl)) | (simp [*, errW_none, errW_some] <;> rfl), by repeat (first | (with_reducible first | exact HB.out | apply below_alloc | apply pw_below_drewN | apply below_drew1) | exact HB.out)⟩
                      · rw [if_neg c32] at H
                        exact absurd H (by simp)
                    · rw [if_neg c31] at H
                      exact absurd H (by simp)
                  · rw [if_neg c30] at H
                    have c30b0 : decide (x82_3 < (t148.length : Int)) = false := decide_eq_false c30
                    clear c30
                    obtain rfl := Option.some.inj H
                    go_wp2
                    go_ret
                    exact ⟨by first | rfl | (simp [errW_none, errW_some] <;> rfl) | (simp [*, errW_none, errW_some] <;> rfl), by repeat (first | (with_reducible first | exact HB.out | apply below_alloc | apply pw_below_drewN | apply below_drew1) | exact HB.out)⟩

/-- THE ONE PURE STATEMENT of cullettop_WholeBasis: yours. -/
def cullettop_WholeBasis.Pure : Prop := ∀ (a0 : Int) (a1 : Int), (Lit.int .u16 a0).wf = true → (Lit.int .u16 a1).wf = true → ∃ k, cullettop_WholeBasis.f k a0 a1 = some true
theorem cullettop_WholeBasis.walk (P : cullettop_WholeBasis.Pure) (a0 : Int) (a1 : Int) (w : World) (w0 : (Lit.int .u16 a0).wf = true) (w1 : (Lit.int .u16 a1).wf = true) :
    Calls Try.prog 9 #[.int .u16 a0, .int .u16 a1] w fun e w' => e = .returned (.bool true) ∧ Below w.heap.size w w' := by
  obtain ⟨k, h⟩ := P a0 a1 w0 w1
  refine (cullettop_WholeBasis.calls k a0 a1 true w h).mono ?_
  rintro e w' ⟨rfl, hd⟩
  exact ⟨rfl, hd⟩

end Go.Proofs.Ytedaifgbnojojaa.Q
