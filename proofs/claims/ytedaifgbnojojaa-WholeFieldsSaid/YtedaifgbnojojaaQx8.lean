-- Printed for this claim by mp.py, a program of its prover, through the kit's print. Lean checks it.
import Derived.Test.YtedaifgbnojojaaQx0
import Derived.Test.YtedaifgbnojojaaQx1
import Derived.Test.YtedaifgbnojojaaQx2
import Derived.Test.YtedaifgbnojojaaQx4
import Derived.Test.YtedaifgbnojojaaQx5
import Derived.Test.YtedaifgbnojojaaQx6
import Derived.Test.YtedaifgbnojojaaQx7
namespace Go.Proofs.Ytedaifgbnojojaa.Q
open Go.RowKit Go.Proofs.YtedaifgbnojojaaW.PrintWords Go.Proofs.YtedaifgbnojojaaW.PrintLast Go.Proofs.YtedaifgbnojojaaW.PrintMore
attribute [local go_sem] max2_int min2_int max_two min_two max_three min_three max_four min_four   -- for this text's walks alone
set_option linter.unusedVariables false
set_option linter.unusedSimpArgs false

/-! ### cullettop_WholeFields: function 12 -/
mutual
def cullettop_WholeFields.j0 : Nat → Int → Int → Int → Int → Int → Int → Bool → Option (Bool)
  | 0, _, _, _, _, _, _, _ => none
  | k + 1, x0, x1, x7, x8, x9, x11, x58 => if x58 = true then (some false) else ((gf8_Tables_Mul.f x7 x8).bind fun t172 => (if (IntKind.u64.wrap (t172)) = x9 then ((gf8_Mul.f k x7 x8).bind fun t173 => (if (IntKind.u64.wrap (t173)) = x9 then ((gf16_Tables_Mul.f x0 x1).bind fun t174 => (if (IntKind.u64.wrap (t174)) = x11 then ((gf16_Mul.f k x0 x1).bind fun t175 => (cullettop_WholeFields.j1 k x0 x1 x7 x8 ((IntKind.u64.wrap (t175)) != x11))) else (cullettop_WholeFields.j1 k x0 x1 x7 x8 true))) else (cullettop_WholeFields.j1 k x0 x1 x7 x8 true))) else (cullettop_WholeFields.j1 k x0 x1 x7 x8 true)))
def cullettop_WholeFields.j1 : Nat → Int → Int → Int → Int → Bool → Option (Bool)
  | 0, _, _, _, _, _ => none
  | k + 1, x0, x1, x7, x8, x90 => if x90 = true then (some false) else (if x7 = 0 then (cullettop_WholeFields.j2 k x0 x1 x7 x8) else ((gf8_Tables_Inv.f x7).bind fun bt176 => ((ring_InvMod.f k (IntKind.u64.wrap (x7)) 285).bind fun bt178 => (if bt176.2 = 0 then (if bt178.2 = 0 then (if (IntKind.u64.wrap (bt176.1)) = bt178.1 then ((gf8_Tables_Mul.f x7 bt176.1).bind fun t180 => (if t180 = 1 then (cullettop_WholeFields.j2 k x0 x1 x7 x8) else (some false))) else (some false)) else (some false)) else (some false)))))
def cullettop_WholeFields.j2 : Nat → Int → Int → Int → Int → Option (Bool)
  | 0, _, _, _, _ => none
  | k + 1, x0, x1, x7, x8 => if x0 = 0 then ((cullettop_logs8.f k x7 x8).bind fun t181 => (if t181 = true then ((cullettop_logs16.f k x0 x1).bind fun t182 => (some t182)) else (some false))) else ((gf16_Tables_Inv.f x0).bind fun bt183 => ((ring_InvMod.f k (IntKind.u64.wrap (x0)) 65581).bind fun bt185 => (if bt183.2 = 0 then (if bt185.2 = 0 then (if (IntKind.u64.wrap (bt183.1)) = bt185.1 then ((gf16_Tables_Mul.f x0 bt183.1).bind fun t187 => (cullettop_WholeFields.j3 k x0 x1 x7 x8 (t187 != 1))) else (cullettop_WholeFields.j3 k x0 x1 x7 x8 true)) else (cullettop_WholeFields.j3 k x0 x1 x7 x8 true)) else (cullettop_WholeFields.j3 k x0 x1 x7 x8 true))))
def cullettop_WholeFields.j3 : Nat → Int → Int → Int → Int → Bool → Option (Bool)
  | 0, _, _, _, _, _ => none
  | k + 1, x0, x1, x7, x8, x156 => if x156 = true then (some false) else ((cullettop_logs8.f k x7 x8).bind fun t188 => (if t188 = true then ((cullettop_logs16.f k x0 x1).bind fun t189 => (some t189)) else (some false)))
end
def cullettop_WholeFields.f (k : Nat) (a0 : Int) (a1 : Int) : Option (Bool) := (gf8_New.f).bind fun _ => ((gf16_New.f).bind fun _ => ((ring_MulMod.f k ((a0) % 256) ((a1) % 256) 285).bind fun bt166 => ((ring_MulMod.f k (IntKind.u64.wrap (a0)) (IntKind.u64.wrap (a1)) 65581).bind fun bt168 => (if bt166.2 = 0 then (if bt168.2 = 0 then ((gf8_Tables_Mul.f 3 7).bind fun t170 => (if t170 = 9 then ((gf16_Tables_Mul.f 3 7).bind fun t171 => (cullettop_WholeFields.j0 k a0 a1 ((a0) % 256) ((a1) % 256) bt166.1 bt168.1 (t171 != 9))) else (cullettop_WholeFields.j0 k a0 a1 ((a0) % 256) ((a1) % 256) bt166.1 bt168.1 true))) else (cullettop_WholeFields.j0 k a0 a1 ((a0) % 256) ((a1) % 256) bt166.1 bt168.1 true)) else (cullettop_WholeFields.j0 k a0 a1 ((a0) % 256) ((a1) % 256) bt166.1 bt168.1 true)))))
theorem cullettop_WholeFields.mono_l : ∀ k, (∀ y0 y1 y2 y3 y4 y5 y6, LeO (cullettop_WholeFields.j0 k y0 y1 y2 y3 y4 y5 y6) (cullettop_WholeFields.j0 (k + 1) y0 y1 y2 y3 y4 y5 y6)) ∧ (∀ y0 y1 y2 y3 y4, LeO (cullettop_WholeFields.j1 k y0 y1 y2 y3 y4) (cullettop_WholeFields.j1 (k + 1) y0 y1 y2 y3 y4)) ∧ (∀ y0 y1 y2 y3, LeO (cullettop_WholeFields.j2 k y0 y1 y2 y3) (cullettop_WholeFields.j2 (k + 1) y0 y1 y2 y3)) ∧ (∀ y0 y1 y2 y3 y4, LeO (cullettop_WholeFields.j3 k y0 y1 y2 y3 y4) (cullettop_WholeFields.j3 (k + 1) y0 y1 y2 y3 y4))
  | 0 => ⟨fun _ _ _ _ _ _ _ r h => by simp [cullettop_WholeFields.j0] at h, fun _ _ _ _ _ r h => by simp [cullettop_WholeFields.j1] at h, fun _ _ _ _ r h => by simp [cullettop_WholeFields.j2] at h, fun _ _ _ _ _ r h => by simp [cullettop_WholeFields.j3] at h⟩
  | k + 1 => by
    obtain ⟨ih0, ih1, ih2, ih3⟩ := cullettop_WholeFields.mono_l k
    refine ⟨?_, ?_, ?_, ?_⟩
    · intro y0 y1 y2 y3 y4 y5 y6
      unfold cullettop_WholeFields.j0
      repeat' first
      | (with_reducible exact ih0 _ _ _ _ _ _ _)
      | (with_reducible exact ih1 _ _ _ _ _)
      | (with_reducible exact ih2 _ _ _ _)
      | (with_reducible exact ih3 _ _ _ _ _)
      | (with_reducible exact cullettop_logs16.mono _ _ _)
      | (with_reducible exact cullettop_logs8.mono _ _ _)
      | (with_reducible exact gf16_Mul.mono _ _ _)
      | (with_reducible exact gf8_Mul.mono _ _ _)
      | (with_reducible exact ring_InvMod.mono _ _ _)
      | (with_reducible exact ring_MulMod.mono _ _ _ _)
      | (with_reducible exact LeO.refl _)
      | (with_reducible exact LeO.none _)
      | (with_reducible refine LeO.ite ?_ ?_)
      | (with_reducible refine LeO.bind ?_ (fun _ => ?_))
      | exact ih0 _ _ _ _ _ _ _
      | exact ih1 _ _ _ _ _
      | exact ih2 _ _ _ _
      | exact ih3 _ _ _ _ _
      | exact cullettop_logs16.mono _ _ _
      | exact cullettop_logs8.mono _ _ _
      | exact gf16_Mul.mono _ _ _
      | exact gf8_Mul.mono _ _ _
      | exact ring_InvMod.mono _ _ _
      | exact ring_MulMod.mono _ _ _ _
      | exact LeO.none _
      | refine LeO.ite ?_ ?_
      | refine LeO.bind ?_ (fun _ => ?_)
    · intro y0 y1 y2 y3 y4
      unfold cullettop_WholeFields.j1
      repeat' first
      | (with_reducible exact ih0 _ _ _ _ _ _ _)
      | (with_reducible exact ih1 _ _ _ _ _)
      | (with_reducible exact ih2 _ _ _ _)
      | (with_reducible exact ih3 _ _ _ _ _)
      | (with_reducible exact cullettop_logs16.mono _ _ _)
      | (with_reducible exact cullettop_logs8.mono _ _ _)
      | (with_reducible exact gf16_Mul.mono _ _ _)
      | (with_reducible exact gf8_Mul.mono _ _ _)
      | (with_reducible exact ring_InvMod.mono _ _ _)
      | (with_reducible exact ring_MulMod.mono _ _ _ _)
      | (with_reducible exact LeO.refl _)
      | (with_reducible exact LeO.none _)
      | (with_reducible refine LeO.ite ?_ ?_)
      | (with_reducible refine LeO.bind ?_ (fun _ => ?_))
      | exact ih0 _ _ _ _ _ _ _
      | exact ih1 _ _ _ _ _
      | exact ih2 _ _ _ _
      | exact ih3 _ _ _ _ _
      | exact cullettop_logs16.mono _ _ _
      | exact cullettop_logs8.mono _ _ _
      | exact gf16_Mul.mono _ _ _
      | exact gf8_Mul.mono _ _ _
      | exact ring_InvMod.mono _ _ _
      | exact ring_MulMod.mono _ _ _ _
      | exact LeO.none _
      | refine LeO.ite ?_ ?_
      | refine LeO.bind ?_ (fun _ => ?_)
    · intro y0 y1 y2 y3
      unfold cullettop_WholeFields.j2
      repeat' first
      | (with_reducible exact ih0 _ _ _ _ _ _ _)
      | (with_reducible exact ih1 _ _ _ _ _)
      | (with_reducible exact ih2 _ _ _ _)
      | (with_reducible exact ih3 _ _ _ _ _)
      | (with_reducible exact cullettop_logs16.mono _ _ _)
      | (with_reducible exact cullettop_logs8.mono _ _ _)
      | (with_reducible exact gf16_Mul.mono _ _ _)
      | (with_reducible exact gf8_Mul.mono _ _ _)
      | (with_reducible exact ring_InvMod.mono _ _ _)
      | (with_reducible exact ring_MulMod.mono _ _ _ _)
      | (with_reducible exact LeO.refl _)
      | (with_reducible exact LeO.none _)
      | (with_reducible refine LeO.ite ?_ ?_)
      | (with_reducible refine LeO.bind ?_ (fun _ => ?_))
      | exact ih0 _ _ _ _ _ _ _
      | exact ih1 _ _ _ _ _
      | exact ih2 _ _ _ _
      | exact ih3 _ _ _ _ _
      | exact cullettop_logs16.mono _ _ _
      | exact cullettop_logs8.mono _ _ _
      | exact gf16_Mul.mono _ _ _
      | exact gf8_Mul.mono _ _ _
      | exact ring_InvMod.mono _ _ _
      | exact ring_MulMod.mono _ _ _ _
      | exact LeO.none _
      | refine LeO.ite ?_ ?_
      | refine LeO.bind ?_ (fun _ => ?_)
    · intro y0 y1 y2 y3 y4
      unfold cullettop_WholeFields.j3
      repeat' first
      | (with_reducible exact ih0 _ _ _ _ _ _ _)
      | (with_reducible exact ih1 _ _ _ _ _)
      | (with_reducible exact ih2 _ _ _ _)
      | (with_reducible exact ih3 _ _ _ _ _)
      | (with_reducible exact cullettop_logs16.mono _ _ _)
      | (with_reducible exact cullettop_logs8.mono _ _ _)
      | (with_reducible exact gf16_Mul.mono _ _ _)
      | (with_reducible exact gf8_Mul.mono _ _ _)
      | (with_reducible exact ring_InvMod.mono _ _ _)
      | (with_reducible exact ring_MulMod.mono _ _ _ _)
      | (with_reducible exact LeO.refl _)
      | (with_reducible exact LeO.none _)
      | (with_reducible refine LeO.ite ?_ ?_)
      | (with_reducible refine LeO.bind ?_ (fun _ => ?_))
      | exact ih0 _ _ _ _ _ _ _
      | exact ih1 _ _ _ _ _
      | exact ih2 _ _ _ _
      | exact ih3 _ _ _ _ _
      | exact cullettop_logs16.mono _ _ _
      | exact cullettop_logs8.mono _ _ _
      | exact gf16_Mul.mono _ _ _
      | exact gf8_Mul.mono _ _ _
      | exact ring_InvMod.mono _ _ _
      | exact ring_MulMod.mono _ _ _ _
      | exact LeO.none _
      | refine LeO.ite ?_ ?_
      | refine LeO.bind ?_ (fun _ => ?_)
theorem cullettop_WholeFields.mono : ∀ a0 a1 k, LeO (cullettop_WholeFields.f k a0 a1) (cullettop_WholeFields.f (k + 1) a0 a1) := by
  intro a0 a1 k
  obtain ⟨ih0, ih1, ih2, ih3⟩ := cullettop_WholeFields.mono_l k
  unfold cullettop_WholeFields.f
  repeat' first
      | (with_reducible exact ih0 _ _ _ _ _ _ _)
      | (with_reducible exact ih1 _ _ _ _ _)
      | (with_reducible exact ih2 _ _ _ _)
      | (with_reducible exact ih3 _ _ _ _ _)
      | (with_reducible exact cullettop_logs16.mono _ _ _)
      | (with_reducible exact cullettop_logs8.mono _ _ _)
      | (with_reducible exact gf16_Mul.mono _ _ _)
      | (with_reducible exact gf8_Mul.mono _ _ _)
      | (with_reducible exact ring_InvMod.mono _ _ _)
      | (with_reducible exact ring_MulMod.mono _ _ _ _)
      | (with_reducible exact LeO.refl _)
      | (with_reducible exact LeO.none _)
      | (with_reducible refine LeO.ite ?_ ?_)
      | (with_reducible refine LeO.bind ?_ (fun _ => ?_))
      | exact ih0 _ _ _ _ _ _ _
      | exact ih1 _ _ _ _ _
      | exact ih2 _ _ _ _
      | exact ih3 _ _ _ _ _
      | exact cullettop_logs16.mono _ _ _
      | exact cullettop_logs8.mono _ _ _
      | exact gf16_Mul.mono _ _ _
      | exact gf8_Mul.mono _ _ _
      | exact ring_InvMod.mono _ _ _
      | exact ring_MulMod.mono _ _ _ _
      | exact LeO.none _
      | refine LeO.ite ?_ ?_
      | refine LeO.bind ?_ (fun _ => ?_)
set_option maxHeartbeats 8000000 in
set_option maxRecDepth 100000 in
theorem cullettop_WholeFields.calls (k : Nat) (a0 : Int) (a1 : Int) (r : Bool) (w : World) (h : cullettop_WholeFields.f k a0 a1 = some r) :
    Calls Try.prog 12 #[.int .u16 a0, .int .u16 a1] w fun e w' => e = .returned (.bool r) ∧ Below w.heap.size w w' := by
  have HB := Aside0.mk (Below.refl w.heap.size w)
  have H : ((gf8_New.f).bind fun _ => ((gf16_New.f).bind fun _ => ((ring_MulMod.f k ((a0) % 256) ((a1) % 256) 285).bind fun bt166 => ((ring_MulMod.f k (IntKind.u64.wrap (a0)) (IntKind.u64.wrap (a1)) 65581).bind fun bt168 => (if bt166.2 = 0 then (if bt168.2 = 0 then ((gf8_Tables_Mul.f 3 7).bind fun t170 => (if t170 = 9 then ((gf16_Tables_Mul.f 3 7).bind fun t171 => (cullettop_WholeFields.j0 k a0 a1 ((a0) % 256) ((a1) % 256) bt166.1 bt168.1 (t171 != 9))) else (cullettop_WholeFields.j0 k a0 a1 ((a0) % 256) ((a1) % 256) bt166.1 bt168.1 true))) else (cullettop_WholeFields.j0 k a0 a1 ((a0) % 256) ((a1) % 256) bt166.1 bt168.1 true)) else (cullettop_WholeFields.j0 k a0 a1 ((a0) % 256) ((a1) % 256) bt166.1 bt168.1 true)))))) = some r := h
  clear h
  replace H := Option.bind_eq_some_iff.mp H
  obtain ⟨_, A30, H⟩ := H
  replace H : ((gf16_New.f).bind fun _ => ((ring_MulMod.f k ((a0) % 256) ((a1) % 256) 285).bind fun bt166 => ((ring_MulMod.f k (IntKind.u64.wrap (a0)) (IntKind.u64.wrap (a1)) 65581).bind fun bt168 => (if bt166.2 = 0 then (if bt168.2 = 0 then ((gf8_Tables_Mul.f 3 7).bind fun t170 => (if t170 = 9 then ((gf16_Tables_Mul.f 3 7).bind fun t171 => (cullettop_WholeFields.j0 k a0 a1 ((a0) % 256) ((a1) % 256) bt166.1 bt168.1 (t171 != 9))) else (cullettop_WholeFields.j0 k a0 a1 ((a0) % 256) ((a1) % 256) bt166.1 bt168.1 true))) else (cullettop_WholeFields.j0 k a0 a1 ((a0) % 256) ((a1) % 256) bt166.1 bt168.1 true)) else (cullettop_WholeFields.j0 k a0 a1 ((a0) % 256) ((a1) % 256) bt166.1 bt168.1 true))))) = some r := H
  have A3 := Aside0.mk A30
  clear A30
  replace H := Option.bind_eq_some_iff.mp H
  obtain ⟨_, A40, H⟩ := H
  replace H : ((ring_MulMod.f k ((a0) % 256) ((a1) % 256) 285).bind fun bt166 => ((ring_MulMod.f k (IntKind.u64.wrap (a0)) (IntKind.u64.wrap (a1)) 65581).bind fun bt168 => (if bt166.2 = 0 then (if bt168.2 = 0 then ((gf8_Tables_Mul.f 3 7).bind fun t170 => (if t170 = 9 then ((gf16_Tables_Mul.f 3 7).bind fun t171 => (cullettop_WholeFields.j0 k a0 a1 ((a0) % 256) ((a1) % 256) bt166.1 bt168.1 (t171 != 9))) else (cullettop_WholeFields.j0 k a0 a1 ((a0) % 256) ((a1) % 256) bt166.1 bt168.1 true))) else (cullettop_WholeFields.j0 k a0 a1 ((a0) % 256) ((a1) % 256) bt166.1 bt168.1 true)) else (cullettop_WholeFields.j0 k a0 a1 ((a0) % 256) ((a1) % 256) bt166.1 bt168.1 true)))) = some r := H
  have A4 := Aside0.mk A40
  clear A40
  replace H := Option.bind_eq_some_iff.mp H
  obtain ⟨⟨t166, t167⟩, A50, H⟩ := H
  replace H : ((ring_MulMod.f k (IntKind.u64.wrap (a0)) (IntKind.u64.wrap (a1)) 65581).bind fun bt168 => (if t167 = 0 then (if bt168.2 = 0 then ((gf8_Tables_Mul.f 3 7).bind fun t170 => (if t170 = 9 then ((gf16_Tables_Mul.f 3 7).bind fun t171 => (cullettop_WholeFields.j0 k a0 a1 ((a0) % 256) ((a1) % 256) t166 bt168.1 (t171 != 9))) else (cullettop_WholeFields.j0 k a0 a1 ((a0) % 256) ((a1) % 256) t166 bt168.1 true))) else (cullettop_WholeFields.j0 k a0 a1 ((a0) % 256) ((a1) % 256) t166 bt168.1 true)) else (cullettop_WholeFields.j0 k a0 a1 ((a0) % 256) ((a1) % 256) t166 bt168.1 true))) = some r := H
  have A5 := Aside0.mk A50
  clear A50
  replace H := Option.bind_eq_some_iff.mp H
  obtain ⟨⟨t168, t169⟩, A60, H⟩ := H
  replace H : (if t167 = 0 then (if t169 = 0 then ((gf8_Tables_Mul.f 3 7).bind fun t170 => (if t170 = 9 then ((gf16_Tables_Mul.f 3 7).bind fun t171 => (cullettop_WholeFields.j0 k a0 a1 ((a0) % 256) ((a1) % 256) t166 t168 (t171 != 9))) else (cullettop_WholeFields.j0 k a0 a1 ((a0) % 256) ((a1) % 256) t166 t168 true))) else (cullettop_WholeFields.j0 k a0 a1 ((a0) % 256) ((a1) % 256) t166 t168 true)) else (cullettop_WholeFields.j0 k a0 a1 ((a0) % 256) ((a1) % 256) t166 t168 true)) = some r := H
  have A6 := Aside0.mk A60
  clear A60
  have HC7 := Aside0.mk H
  clear H
  go_enter Try.func12, Try.ntmps12
  go_upto_region 5 with (first | ((with_reducible refine gate_callee (f := 33) rfl ?_); refine goesL_ (some 21) rfl rfl Try.func33 (by kernel_rfl) rfl #[] rfl (by (try simp only [List.map_toArray, List.map_cons, List.map_nil]); first | done | rfl | (simp only [tb_wrap8]; done) | (simp only [tb_wrap8]; rfl) | (simp only [List.length_drop, List.length_take]; rfl)) ?_; (with_reducible refine (gf8_New.calls   w _ ?side1 A3.out).mono ?_); (case side1 => repeat (first | (with_reducible first | exact HB.out | apply below_alloc | apply pw_below_drewN | apply below_drew1) | exact HB.out)); rintro e w8 ⟨g164, rfl, hi, hb, hb2⟩; refine ⟨_, rfl, ?_⟩; have n0_ := Aside0.mk (hb); have n1_ := Aside0.mk (hi); clear HB; have HB := n0_; have HI164 := n1_; clear n0_ n1_; (try clear hb); (try clear hb2); (try clear hk); (try clear hi)) | ((with_reducible refine gate_callee (f := 13) rfl ?_); refine goesL_ (some 22) rfl rfl Try.func13 (by kernel_rfl) rfl #[] rfl (by (try simp only [List.map_toArray, List.map_cons, List.map_nil]); first | done | rfl | (simp only [tb_wrap8]; done) | (simp only [tb_wrap8]; rfl) | (simp only [List.length_drop, List.length_take]; rfl)) ?_; (with_reducible refine (gf16_New.calls   w _ ?side1 A4.out).mono ?_); (case side1 => repeat (first | (with_reducible first | exact HB.out | apply below_alloc | apply pw_below_drewN | apply below_drew1 | refine below_set ?_ (IsS88.ge HI164.out)) | exact HB.out)); rintro e w9 ⟨g165, rfl, hi, hb, hb2⟩; refine ⟨_, rfl, ?_⟩; have n0_ := Aside0.mk (IsS88.below (by repeat (first | (with_reducible first | exact HI164.out | apply IsS88.alloc | apply IsS88.drewN | apply IsS88.drew) | exact HI164.out)) hb2); have n1_ := Aside0.mk (hb); have n2_ := Aside0.mk (hi); clear HI164; clear HB; have HI164 := n0_; have HB := n1_; have HI165 := n2_; clear n0_ n1_ n2_; (try clear hb); (try clear hb2); (try clear hk); (try clear hi)) | ((with_reducible refine gate_callee (f := 29) rfl ?_); refine goesL_ (some 32) rfl rfl Try.func29 (by kernel_rfl) rfl #[.int .u64 ((a0) % 256), .int .u64 ((a1) % 256), .int .u64 285] rfl (by (try simp only [List.map_toArray, List.map_cons, List.map_nil]); first | done | rfl | (simp only [tb_wrap8]; done) | (simp only [tb_wrap8]; rfl) | (simp only [List.length_drop, List.length_take]; rfl)) ?_; (with_reducible refine (ring_MulMod.calls k ((a0) % 256) ((a1) % 256) 285 t166 t167 _ A5.out).mono ?_); rintro e w' ⟨rfl, ⟨nd, rfl⟩⟩; refine ⟨_, rfl, ?_⟩) | ((with_reducible refine gate_callee (f := 29) rfl ?_); refine goesL_ (some 40) rfl rfl Try.func29 (by kernel_rfl) rfl #[.int .u64 (IntKind.u64.wrap (a0)), .int .u64 (IntKind.u64.wrap (a1)), .int .u64 65581] rfl (by (try simp only [List.map_toArray, List.map_cons, List.map_nil]); first | done | rfl | (simp only [tb_wrap8]; done) | (simp only [tb_wrap8]; rfl) | (simp only [List.length_drop, List.length_take]; rfl)) ?_; (with_reducible refine (ring_MulMod.calls k (IntKind.u64.wrap (a0)) (IntKind.u64.wrap (a1)) 65581 t168 t169 _ A6.out).mono ?_); rintro e w' ⟨rfl, ⟨nd, rfl⟩⟩; refine ⟨_, rfl, ?_⟩))
  (try simp only [Act.put, List.setIfInBounds_toArray, List.set_cons_zero, List.set_cons_succ])
  go_cut [58] (fun v58 wc => ∃ (kq : Nat) (x58_6 : Bool), v58 = .bool x58_6 ∧ Aside0 (cullettop_WholeFields.j0 kq a0 a1 ((a0) % 256) ((a1) % 256) t166 t168 x58_6 = some r) ∧ Aside0 (kq ≤ k) ∧ Aside0 (IsS88 w wc g164 ) ∧ Aside0 (IsS66 w wc g165 ) ∧ Aside0 (Below w.heap.size w wc))
  case first =>
    have H := HC7.out
    clear HC7
    by_cases c10 : t167 = 0
    · rw [if_pos c10] at H
      have c10b0 : (t167 == 0) = true := beq_iff_eq.mpr c10
      have c10b1 : (t167 != 0) = false := bne_eq_false_iff_eq.mpr c10
      clear c10
      (first | rw [c10b0] | (simp only [i64_w, i32_w]; rw [c10b0]) | skip)
      by_cases c11 : t169 = 0
      · rw [if_pos c11] at H
        have c11b0 : (t169 == 0) = true := beq_iff_eq.mpr c11
        have c11b1 : (t169 != 0) = false := bne_eq_false_iff_eq.mpr c11
        clear c11
        replace H := Option.bind_eq_some_iff.mp H
        obtain ⟨t170, A120, H⟩ := H
        replace H : (if t170 = 9 then ((gf16_Tables_Mul.f 3 7).bind fun t171 => (cullettop_WholeFields.j0 k a0 a1 ((a0) % 256) ((a1) % 256) t166 t168 (t171 != 9))) else (cullettop_WholeFields.j0 k a0 a1 ((a0) % 256) ((a1) % 256) t166 t168 true)) = some r := H
        have A12 := Aside0.mk A120
        clear A120
        by_cases c13 : t170 = 9
        · rw [if_pos c13] at H
          have c13b0 : (t170 == 9) = true := beq_iff_eq.mpr c13
          have c13b1 : (t170 != 9) = false := bne_eq_false_iff_eq.mpr c13
          clear c13
          replace H := Option.bind_eq_some_iff.mp H
          obtain ⟨t171, A140, H⟩ := H
          replace H : (cullettop_WholeFields.j0 k a0 a1 ((a0) % 256) ((a1) % 256) t166 t168 (t171 != 9)) = some r := H
          have A14 := Aside0.mk A140
          clear A140
          have H' := Aside0.mk H
          clear H
          go_wp2_with (first | (go_at_call 34; (with_reducible refine (gf8_Tables_Mul.calls g164 3 7 t170 _ ?side1 A12.out).mono ?_); (case side1 => repeat (first | (with_reducible first | exact HI164.out | apply IsS88.alloc | apply IsS88.drewN | apply IsS88.drew) | exact HI164.out)); rintro e w' ⟨rfl, ⟨nd, rfl⟩⟩) | (go_at_call 25; (with_reducible refine (gf16_Tables_Mul.calls g165 3 7 t171 _ ?side1 A14.out).mono ?_); (case side1 => repeat (first | (with_reducible first | exact HI165.out | apply IsS66.alloc | apply IsS66.drewN | apply IsS66.drew) | exact HI165.out)); rintro e w' ⟨rfl, ⟨nd, rfl⟩⟩))
          go_meet
          case rel => exact ⟨_, ((t171 != 9)), (by first | rfl | (simp; done) | (simp [*]; done)), H', ⟨by first | omega | exact Nat.le_refl _⟩, ⟨by repeat (first | (with_reducible first | exact HI164.out | apply IsS88.alloc | apply IsS88.drewN | apply IsS88.drew) | exact HI164.out)⟩, ⟨by repeat (first | (with_reducible first | exact HI165.out | apply IsS66.alloc | apply IsS66.drewN | apply IsS66.drew) | exact HI165.out)⟩, ⟨by repeat (first | (with_reducible first | exact HB.out | apply below_alloc | apply pw_below_drewN | apply below_drew1 | refine below_set ?_ (IsS88.ge HI164.out) | refine below_set ?_ (IsS66.ge HI165.out)) | exact HB.out)⟩⟩
        · rw [if_neg c13] at H
          have c13b0 : (t170 == 9) = false := beq_eq_false_iff_ne.mpr c13
          have c13b1 : (t170 != 9) = true := bne_iff_ne.mpr c13
          have H' := Aside0.mk H
          clear H
          go_wp2_with (first | (go_at_call 34; (with_reducible refine (gf8_Tables_Mul.calls g164 3 7 t170 _ ?side1 A12.out).mono ?_); (case side1 => repeat (first | (with_reducible first | exact HI164.out | apply IsS88.alloc | apply IsS88.drewN | apply IsS88.drew) | exact HI164.out)); rintro e w' ⟨rfl, ⟨nd, rfl⟩⟩))
          go_meet
          case rel => exact ⟨_, (true), (by first | rfl | (simp; done) | (simp [*]; done)), H', ⟨by first | omega | exact Nat.le_refl _⟩, ⟨by repeat (first | (with_reducible first | exact HI164.out | apply IsS88.alloc | apply IsS88.drewN | apply IsS88.drew) | exact HI164.out)⟩, ⟨by repeat (first | (with_reducible first | exact HI165.out | apply IsS66.alloc | apply IsS66.drewN | apply IsS66.drew) | exact HI165.out)⟩, ⟨by repeat (first | (with_reducible first | exact HB.out | apply below_alloc | apply pw_below_drewN | apply below_drew1 | refine below_set ?_ (IsS88.ge HI164.out) | refine below_set ?_ (IsS66.ge HI165.out)) | exact HB.out)⟩⟩
      · rw [if_neg c11] at H
        have c11b0 : (t169 == 0) = false := beq_eq_false_iff_ne.mpr c11
        have c11b1 : (t169 != 0) = true := bne_iff_ne.mpr c11
        have H' := Aside0.mk H
        clear H
        go_wp2
        go_meet
        case rel => exact ⟨_, (true), (by first | rfl | (simp; done) | (simp [*]; done)), H', ⟨by first | omega | exact Nat.le_refl _⟩, ⟨by repeat (first | (with_reducible first | exact HI164.out | apply IsS88.alloc | apply IsS88.drewN | apply IsS88.drew) | exact HI164.out)⟩, ⟨by repeat (first | (with_reducible first | exact HI165.out | apply IsS66.alloc | apply IsS66.drewN | apply IsS66.drew) | exact HI165.out)⟩, ⟨by repeat (first | (with_reducible first | exact HB.out | apply below_alloc | apply pw_below_drewN | apply below_drew1 | refine below_set ?_ (IsS88.ge HI164.out) | refine below_set ?_ (IsS66.ge HI165.out)) | exact HB.out)⟩⟩
    · rw [if_neg c10] at H
      have c10b0 : (t167 == 0) = false := beq_eq_false_iff_ne.mpr c10
      have c10b1 : (t167 != 0) = true := bne_iff_ne.mpr c10
      (first | rw [c10b0] | (simp only [i64_w, i32_w]; rw [c10b0]) | skip)
      have H' := Aside0.mk H
      clear H
      go_wp2
      go_meet
      case rel => exact ⟨_, (true), (by first | rfl | (simp; done) | (simp [*]; done)), H', ⟨by first | omega | exact Nat.le_refl _⟩, ⟨by repeat (first | (with_reducible first | exact HI164.out | apply IsS88.alloc | apply IsS88.drewN | apply IsS88.drew) | exact HI164.out)⟩, ⟨by repeat (first | (with_reducible first | exact HI165.out | apply IsS66.alloc | apply IsS66.drewN | apply IsS66.drew) | exact HI165.out)⟩, ⟨by repeat (first | (with_reducible first | exact HB.out | apply below_alloc | apply pw_below_drewN | apply below_drew1 | refine below_set ?_ (IsS88.ge HI164.out) | refine below_set ?_ (IsS66.ge HI165.out)) | exact HB.out)⟩⟩
  case rest =>
    clear HC7
    try clear c1
    try clear c2
    try clear p2
    try clear c3
    try clear p8
    try clear c10
    try clear c10b0
    try clear c10b1
    try clear c11
    try clear c11b0
    try clear c11b1
    try clear c12
    try clear c13
    try clear c13b0
    try clear c13b1
    obtain ⟨kq, x58_6, rfl, HA, HJ6, HI164, HI165, HB⟩ := hcut
    cases kq with
    | zero => exact absurd HA.out (by simp [cullettop_WholeFields.j0])
    | succ kj6 =>
      have H := HA.out
      clear HA
      simp only [cullettop_WholeFields.j0] at H
      by_cases c15 : x58_6 = true
      · subst c15
        have H1 : (some false) = some r := by rw [if_pos rfl] at H; exact H
        clear H
        have H := H1
        clear H1
        obtain rfl := Option.some.inj H
        go_wp2
        go_ret
        exact ⟨by first | rfl | (simp [errW_none, errW_some] <;> rfl) | (simp [*, errW_none, errW_some] <;> rfl), by repeat (first | (with_reducible first | exact HB.out | apply below_alloc | apply pw_below_drewN | apply below_drew1 | refine below_set ?_ (IsS88.ge HI164.out) | refine below_set ?_ (IsS66.ge HI165.out)) | exact HB.out)⟩
      · replace c15 := Bool.eq_false_iff.mpr c15
        subst c15
        have H1 : ((gf8_Tables_Mul.f ((a0) % 256) ((a1) % 256)).bind fun t172 => (if (IntKind.u64.wrap (t172)) = t166 then ((gf8_Mul.f kj6 ((a0) % 256) ((a1) % 256)).bind fun t173 => (if (IntKind.u64.wrap (t173)) = t166 then ((gf16_Tables_Mul.f a0 a1).bind fun t174 => (if (IntKind.u64.wrap (t174)) = t168 then ((gf16_Mul.f kj6 a0 a1).bind fun t175 => (cullettop_WholeFields.j1 kj6 a0 a1 ((a0) % 256) ((a1) % 256) ((IntKind.u64.wrap (t175)) != t168))) else (cullettop_WholeFields.j1 kj6 a0 a1 ((a0) % 256) ((a1) % 256) true))) else (cullettop_WholeFields.j1 kj6 a0 a1 ((a0) % 256) ((a1) % 256) true))) else (cullettop_WholeFields.j1 kj6 a0 a1 ((a0) % 256) ((a1) % 256) true))) = some r := by rw [if_neg (show ¬ (false = true) by decide)] at H; exact H
        clear H
        have H := H1
        clear H1
        have HC16 := Aside0.mk H
        clear H
        go_upto_region 7 with (fail)
        go_cut [90] (fun v90 wc => ∃ (kq : Nat) (x90_15 : Bool), v90 = .bool x90_15 ∧ Aside0 (cullettop_WholeFields.j1 kq a0 a1 ((a0) % 256) ((a1) % 256) x90_15 = some r) ∧ Aside0 (kq ≤ kj6) ∧ Aside0 (IsS88 w wc g164 ) ∧ Aside0 (IsS66 w wc g165 ) ∧ Aside0 (Below w.heap.size w wc))
        case first =>
          have H := HC16.out
          clear HC16
          replace H := Option.bind_eq_some_iff.mp H
          obtain ⟨t172, A170, H⟩ := H
          replace H : (if (IntKind.u64.wrap (t172)) = t166 then ((gf8_Mul.f kj6 ((a0) % 256) ((a1) % 256)).bind fun t173 => (if (IntKind.u64.wrap (t173)) = t166 then ((gf16_Tables_Mul.f a0 a1).bind fun t174 => (if (IntKind.u64.wrap (t174)) = t168 then ((gf16_Mul.f kj6 a0 a1).bind fun t175 => (cullettop_WholeFields.j1 kj6 a0 a1 ((a0) % 256) ((a1) % 256) ((IntKind.u64.wrap (t175)) != t168))) else (cullettop_WholeFields.j1 kj6 a0 a1 ((a0) % 256) ((a1) % 256) true))) else (cullettop_WholeFields.j1 kj6 a0 a1 ((a0) % 256) ((a1) % 256) true))) else (cullettop_WholeFields.j1 kj6 a0 a1 ((a0) % 256) ((a1) % 256) true)) = some r := H
          have A17 := Aside0.mk A170
          clear A170
          by_cases c18 : (IntKind.u64.wrap (t172)) = t166
          · rw [if_pos c18] at H
            have c18b0 : ((IntKind.u64.wrap (t172)) == t166) = true := beq_iff_eq.mpr c18
            have c18b1 : ((IntKind.u64.wrap (t172)) != t166) = false := bne_eq_false_iff_eq.mpr c18
            clear c18
            (first | rw [c18b0] | (simp only [i64_w, i32_w]; rw [c18b0]) | skip)
            replace H := Option.bind_eq_some_iff.mp H
            obtain ⟨t173, A190, H⟩ := H
            replace H : (if (IntKind.u64.wrap (t173)) = t166 then ((gf16_Tables_Mul.f a0 a1).bind fun t174 => (if (IntKind.u64.wrap (t174)) = t168 then ((gf16_Mul.f kj6 a0 a1).bind fun t175 => (cullettop_WholeFields.j1 kj6 a0 a1 ((a0) % 256) ((a1) % 256) ((IntKind.u64.wrap (t175)) != t168))) else (cullettop_WholeFields.j1 kj6 a0 a1 ((a0) % 256) ((a1) % 256) true))) else (cullettop_WholeFields.j1 kj6 a0 a1 ((a0) % 256) ((a1) % 256) true)) = some r := H
            have A19 := Aside0.mk A190
            clear A190
            by_cases c20 : (IntKind.u64.wrap (t173)) = t166
            · rw [if_pos c20] at H
              have c20b0 : ((IntKind.u64.wrap (t173)) == t166) = true := beq_iff_eq.mpr c20
              have c20b1 : ((IntKind.u64.wrap (t173)) != t166) = false := bne_eq_false_iff_eq.mpr c20
              clear c20
              replace H := Option.bind_eq_some_iff.mp H
              obtain ⟨t174, A210, H⟩ := H
              replace H : (if (IntKind.u64.wrap (t174)) = t168 then ((gf16_Mul.f kj6 a0 a1).bind fun t175 => (cullettop_WholeFields.j1 kj6 a0 a1 ((a0) % 256) ((a1) % 256) ((IntKind.u64.wrap (t175)) != t168))) else (cullettop_WholeFields.j1 kj6 a0 a1 ((a0) % 256) ((a1) % 256) true)) = some r := H
              have A21 := Aside0.mk A210
              clear A210
              by_cases c22 : (IntKind.u64.wrap (t174)) = t168
              · rw [if_pos c22] at H
                have c22b0 : ((IntKind.u64.wrap (t174)) == t168) = true := beq_iff_eq.mpr c22
                have c22b1 : ((IntKind.u64.wrap (t174)) != t168) = false := bne_eq_false_iff_eq.mpr c22
                clear c22
                replace H := Option.bind_eq_some_iff.mp H
                obtain ⟨t175, A230, H⟩ := H
                replace H : (cullettop_WholeFields.j1 kj6 a0 a1 ((a0) % 256) ((a1) % 256) ((IntKind.u64.wrap (t175)) != t168)) = some r := H
                have A23 := Aside0.mk A230
                clear A230
                have H' := Aside0.mk H
                clear H
                go_wp2_with (first | ((with_reducible refine gate_callee (f := 34) rfl ?_); refine goesL_ (some 62) rfl rfl Try.func34 (by kernel_rfl) rfl #[.pointer (some ⟨g164, 0, none⟩), .int .u8 ((a0) % 256), .int .u8 ((a1) % 256)] rfl (by (try simp only [List.map_toArray, List.map_cons, List.map_nil]); first | done | rfl | (simp only [tb_wrap8]; done) | (simp only [tb_wrap8]; rfl) | (simp only [List.length_drop, List.length_take]; rfl)) ?_; (with_reducible refine (gf8_Tables_Mul.calls g164 ((a0) % 256) ((a1) % 256) t172 _ ?side1 A17.out).mono ?_); (case side1 => repeat (first | (with_reducible first | exact HI164.out | apply IsS88.alloc | apply IsS88.drewN | apply IsS88.drew) | exact HI164.out)); rintro e w' ⟨rfl, ⟨nd, rfl⟩⟩; refine ⟨_, rfl, ?_⟩) | (go_at_call 35; (with_reducible refine (gf8_Mul.calls kj6 ((a0) % 256) ((a1) % 256) t173 _ A19.out).mono ?_); rintro e w' ⟨rfl, ⟨nd, rfl⟩⟩) | (go_at_call 25; (with_reducible refine (gf16_Tables_Mul.calls g165 a0 a1 t174 _ ?side1 A21.out).mono ?_); (case side1 => repeat (first | (with_reducible first | exact HI165.out | apply IsS66.alloc | apply IsS66.drewN | apply IsS66.drew) | exact HI165.out)); rintro e w' ⟨rfl, ⟨nd, rfl⟩⟩) | (go_at_call 18; (with_reducible refine (gf16_Mul.calls kj6 a0 a1 t175 _ A23.out).mono ?_); rintro e w' ⟨rfl, ⟨nd, rfl⟩⟩))
                go_meet
                case rel => exact ⟨_, (((IntKind.u64.wrap (t175)) != t168)), (by first | rfl | (simp; done) | (simp [*]; done)), H', ⟨by have := HJ6.out; first | omega | exact Nat.le_refl _⟩, ⟨by repeat (first | (with_reducible first | exact HI164.out | apply IsS88.alloc | apply IsS88.drewN | apply IsS88.drew) | exact HI164.out)⟩, ⟨by repeat (first | (with_reducible first | exact HI165.out | apply IsS66.alloc | apply IsS66.drewN | apply IsS66.drew) | exact HI165.out)⟩, ⟨by repeat (first | (with_reducible first | exact HB.out | apply below_alloc | apply pw_below_drewN | apply below_drew1 | refine below_set ?_ (IsS88.ge HI164.out) | refine below_set ?_ (IsS66.ge HI165.out)) | exact HB.out)⟩⟩
              · rw [if_neg c22] at H
                have c22b0 : ((IntKind.u64.wrap (t174)) == t168) = false := beq_eq_false_iff_ne.mpr c22
                have c22b1 : ((IntKind.u64.wrap (t174)) != t168) = true := bne_iff_ne.mpr c22
                have H' := Aside0.mk H
                clear H
                go_wp2_with (first | ((with_reducible refine gate_callee (f := 34) rfl ?_); refine goesL_ (some 62) rfl rfl Try.func34 (by kernel_rfl) rfl #[.pointer (some ⟨g164, 0, none⟩), .int .u8 ((a0) % 256), .int .u8 ((a1) % 256)] rfl (by (try simp only [List.map_toArray, List.map_cons, List.map_nil]); first | done | rfl | (simp only [tb_wrap8]; done) | (simp only [tb_wrap8]; rfl) | (simp only [List.length_drop, List.length_take]; rfl)) ?_; (with_reducible refine (gf8_Tables_Mul.calls g164 ((a0) % 256) ((a1) % 256) t172 _ ?side1 A17.out).mono ?_); (case side1 => repeat (first | (with_reducible first | exact HI164.out | apply IsS88.alloc | apply IsS88.drewN | apply IsS88.drew) | exact HI164.out)); rintro e w' ⟨rfl, ⟨nd, rfl⟩⟩; refine ⟨_, rfl, ?_⟩) | (go_at_call 35; (with_reducible refine (gf8_Mul.calls kj6 ((a0) % 256) ((a1) % 256) t173 _ A19.out).mono ?_); rintro e w' ⟨rfl, ⟨nd, rfl⟩⟩) | (go_at_call 25; (with_reducible refine (gf16_Tables_Mul.calls g165 a0 a1 t174 _ ?side1 A21.out).mono ?_); (case side1 => repeat (first | (with_reducible first | exact HI165.out | apply IsS66.alloc | apply IsS66.drewN | apply IsS66.drew) | exact HI165.out)); rintro e w' ⟨rfl, ⟨nd, rfl⟩⟩))
                go_meet
                case rel => exact ⟨_, (true), (by first | rfl | (simp; done) | (simp [*]; done)), H', ⟨by have := HJ6.out; first | omega | exact Nat.le_refl _⟩, ⟨by repeat (first | (with_reducible first | exact HI164.out | apply IsS88.alloc | apply IsS88.drewN | apply IsS88.drew) | exact HI164.out)⟩, ⟨by repeat (first | (with_reducible first | exact HI165.out | apply IsS66.alloc | apply IsS66.drewN | apply IsS66.drew) | exact HI165.out)⟩, ⟨by repeat (first | (with_reducible first | exact HB.out | apply below_alloc | apply pw_below_drewN | apply below_drew1 | refine below_set ?_ (IsS88.ge HI164.out) | refine below_set ?_ (IsS66.ge HI165.out)) | exact HB.out)⟩⟩
            · rw [if_neg c20] at H
              have c20b0 : ((IntKind.u64.wrap (t173)) == t166) = false := beq_eq_false_iff_ne.mpr c20
              have c20b1 : ((IntKind.u64.wrap (t173)) != t166) = true := bne_iff_ne.mpr c20
              have H' := Aside0.mk H
              clear H
              go_wp2_with (first | ((with_reducible refine gate_callee (f := 34) rfl ?_); refine goesL_ (some 62) rfl rfl Try.func34 (by kernel_rfl) rfl #[.pointer (some ⟨g164, 0, none⟩), .int .u8 ((a0) % 256), .int .u8 ((a1) % 256)] rfl (by (try simp only [List.map_toArray, List.map_cons, List.map_nil]); first | done | rfl | (simp only [tb_wrap8]; done) | (simp only [tb_wrap8]; rfl) | (simp only [List.length_drop, List.length_take]; rfl)) ?_; (with_reducible refine (gf8_Tables_Mul.calls g164 ((a0) % 256) ((a1) % 256) t172 _ ?side1 A17.out).mono ?_); (case side1 => repeat (first | (with_reducible first | exact HI164.out | apply IsS88.alloc | apply IsS88.drewN | apply IsS88.drew) | exact HI164.out)); rintro e w' ⟨rfl, ⟨nd, rfl⟩⟩; refine ⟨_, rfl, ?_⟩) | (go_at_call 35; (with_reducible refine (gf8_Mul.calls kj6 ((a0) % 256) ((a1) % 256) t173 _ A19.out).mono ?_); rintro e w' ⟨rfl, ⟨nd, rfl⟩⟩))
              go_meet
              case rel => exact ⟨_, (true), (by first | rfl | (simp; done) | (simp [*]; done)), H', ⟨by have := HJ6.out; first | omega | exact Nat.le_refl _⟩, ⟨by repeat (first | (with_reducible first | exact HI164.out | apply IsS88.alloc | apply IsS88.drewN | apply IsS88.drew) | exact HI164.out)⟩, ⟨by repeat (first | (with_reducible first | exact HI165.out | apply IsS66.alloc | apply IsS66.drewN | apply IsS66.drew) | exact HI165.out)⟩, ⟨by repeat (first | (with_reducible first | exact HB.out | apply below_alloc | apply pw_below_drewN | apply below_drew1 | refine below_set ?_ (IsS88.ge HI164.out) | refine below_set ?_ (IsS66.ge HI165.out)) | exact HB.out)⟩⟩
          · rw [if_neg c18] at H
            have c18b0 : ((IntKind.u64.wrap (t172)) == t166) = false := beq_eq_false_iff_ne.mpr c18
            have c18b1 : ((IntKind.u64.wrap (t172)) != t166) = true := bne_iff_ne.mpr c18
            (first | rw [c18b0] | (simp only [i64_w, i32_w]; rw [c18b0]) | skip)
            have H' := Aside0.mk H
            clear H
            go_wp2_with (first | ((with_reducible refine gate_callee (f := 34) rfl ?_); refine goesL_ (some 62) rfl rfl Try.func34 (by kernel_rfl) rfl #[.pointer (some ⟨g164, 0, none⟩), .int .u8 ((a0) % 256), .int .u8 ((a1) % 256)] rfl (by (try simp only [List.map_toArray, List.map_cons, List.map_nil]); first | done | rfl | (simp only [tb_wrap8]; done) | (simp only [tb_wrap8]; rfl) | (simp only [List.length_drop, List.length_take]; rfl)) ?_; (with_reducible refine (gf8_Tables_Mul.calls g164 ((a0) % 256) ((a1) % 256) t172 _ ?side1 A17.out).mono ?_); (case side1 => repeat (first | (with_reducible first | exact HI164.out | apply IsS88.alloc | apply IsS88.drewN | apply IsS88.drew) | exact HI164.out)); rintro e w' ⟨rfl, ⟨nd, rfl⟩⟩; refine ⟨_, rfl, ?_⟩))
            go_meet
            case rel => exact ⟨_, (true), (by first | rfl | (simp; done) | (simp [*]; done)), H', ⟨by have := HJ6.out; first | omega | exact Nat.le_refl _⟩, ⟨by repeat (first | (with_reducible first | exact HI164.out | apply IsS88.alloc | apply IsS88.drewN | apply IsS88.drew) | exact HI164.out)⟩, ⟨by repeat (first | (with_reducible first | exact HI165.out | apply IsS66.alloc | apply IsS66.drewN | apply IsS66.drew) | exact HI165.out)⟩, ⟨by repeat (first | (with_reducible first | exact HB.out | apply below_alloc | apply pw_below_drewN | apply below_drew1 | refine below_set ?_ (IsS88.ge HI164.out) | refine below_set ?_ (IsS66.ge HI165.out)) | exact HB.out)⟩⟩
        case rest =>
          clear HC16
          try clear c1
          try clear c2
          try clear p2
          try clear c3
          try clear p8
          try clear c10
          try clear c10b0
          try clear c10b1
          try clear c11
          try clear c11b0
          try clear c11b1
          try clear c12
          try clear c13
          try clear c13b0
          try clear c13b1
          try clear c15
          try clear c18
          try clear c18b0
          try clear c18b1
          try clear c20
          try clear c20b0
          try clear c20b1
          try clear c22
          try clear c22b0
          try clear c22b1
          try clear p2
          try clear p8
          obtain ⟨kq, x90_15, rfl, HA, HJ15, HI164, HI165, HB⟩ := hcut
          cases kq with
          | zero => exact absurd HA.out (by simp [cullettop_WholeFields.j1])
          | succ kj15 =>
            have H := HA.out
            clear HA
            simp only [cullettop_WholeFields.j1] at H
            by_cases c24 : x90_15 = true
            · subst c24
              have H1 : (some false) = some r := by rw [if_pos rfl] at H; exact H
              clear H
              have H := H1
              clear H1
              obtain rfl := Option.some.inj H
              go_wp2
              go_ret
              exact ⟨by first | rfl | (simp [errW_none, errW_some] <;> rfl) | (simp [*, errW_none, errW_some] <;> rfl), by repeat (first | (with_reducible first | exact HB.out | apply below_alloc | apply pw_below_drewN | apply below_drew1 | refine below_set ?_ (IsS88.ge HI164.out) | refine below_set ?_ (IsS66.ge HI165.out)) | exact HB.out)⟩
            · replace c24 := Bool.eq_false_iff.mpr c24
              subst c24
              have H1 : (if ((a0) % 256) = 0 then (cullettop_WholeFields.j2 kj15 a0 a1 ((a0) % 256) ((a1) % 256)) else ((gf8_Tables_Inv.f ((a0) % 256)).bind fun bt176 => ((ring_InvMod.f kj15 (IntKind.u64.wrap (((a0) % 256))) 285).bind fun bt178 => (if bt176.2 = 0 then (if bt178.2 = 0 then (if (IntKind.u64.wrap (bt176.1)) = bt178.1 then ((gf8_Tables_Mul.f ((a0) % 256) bt176.1).bind fun t180 => (if t180 = 1 then (cullettop_WholeFields.j2 kj15 a0 a1 ((a0) % 256) ((a1) % 256)) else (some false))) else (some false)) else (some false)) else (some false))))) = some r := by rw [if_neg (show ¬ (false = true) by decide)] at H; exact H
              clear H
              have H := H1
              clear H1
              have HC25 := Aside0.mk H
              clear H
              go_upto_if 92 with (fail)
              go_cut [] (fun wc => ∃ (kq : Nat), Aside0 (cullettop_WholeFields.j2 kq a0 a1 ((a0) % 256) ((a1) % 256) = some r) ∧ Aside0 (kq ≤ kj15) ∧ Aside0 (IsS88 w wc g164 ) ∧ Aside0 (IsS66 w wc g165 ) ∧ Aside0 (Below w.heap.size w wc))
              case first =>
                have H := HC25.out
                clear HC25
                by_cases c26 : ((a0) % 256) = 0
                · rw [if_pos c26] at H
                  have c26b0 : (((a0) % 256) == 0) = true := beq_iff_eq.mpr c26
                  have c26b1 : (((a0) % 256) != 0) = false := bne_eq_false_iff_eq.mpr c26
                  clear c26
                  (first | rw [c26b0] | (simp only [i64_w, i32_w]; rw [c26b0]) | skip)
                  have H' := Aside0.mk H
                  clear H
                  go_wp2
                  go_meet
                  case rel => exact ⟨_, H', ⟨by have := HJ6.out; have := HJ15.out; first | omega | exact Nat.le_refl _⟩, ⟨by repeat (first | (with_reducible first | exact HI164.out | apply IsS88.alloc | apply IsS88.drewN | apply IsS88.drew) | exact HI164.out)⟩, ⟨by repeat (first | (with_reducible first | exact HI165.out | apply IsS66.alloc | apply IsS66.drewN | apply IsS66.drew) | exact HI165.out)⟩, ⟨by repeat (first | (with_reducible first | exact HB.out | apply below_alloc | apply pw_below_drewN | apply below_drew1 | refine below_set ?_ (IsS88.ge HI164.out) | refine below_set ?_ (IsS66.ge HI165.out)) | exact HB.out)⟩⟩
                · rw [if_neg c26] at H
                  have c26b0 : (((a0) % 256) == 0) = false := beq_eq_false_iff_ne.mpr c26
                  have c26b1 : (((a0) % 256) != 0) = true := bne_iff_ne.mpr c26
                  (first | rw [c26b0] | (simp only [i64_w, i32_w]; rw [c26b0]) | skip)
                  replace H := Option.bind_eq_some_iff.mp H
                  obtain ⟨⟨t176, t177⟩, A270, H⟩ := H
                  replace H : ((ring_InvMod.f kj15 (IntKind.u64.wrap (((a0) % 256))) 285).bind fun bt178 => (if t177 = 0 then (if bt178.2 = 0 then (if (IntKind.u64.wrap (t176)) = bt178.1 then ((gf8_Tables_Mul.f ((a0) % 256) t176).bind fun t180 => (if t180 = 1 then (cullettop_WholeFields.j2 kj15 a0 a1 ((a0) % 256) ((a1) % 256)) else (some false))) else (some false)) else (some false)) else (some false))) = some r := H
                  have A27 := Aside0.mk A270
                  clear A270
                  replace H := Option.bind_eq_some_iff.mp H
                  obtain ⟨⟨t178, t179⟩, A280, H⟩ := H
                  replace H : (if t177 = 0 then (if t179 = 0 then (if (IntKind.u64.wrap (t176)) = t178 then ((gf8_Tables_Mul.f ((a0) % 256) t176).bind fun t180 => (if t180 = 1 then (cullettop_WholeFields.j2 kj15 a0 a1 ((a0) % 256) ((a1) % 256)) else (some false))) else (some false)) else (some false)) else (some false)) = some r := H
                  have A28 := Aside0.mk A280
                  clear A280
                  by_cases c29 : t177 = 0
                  · rw [if_pos c29] at H
                    have c29b0 : (t177 == 0) = true := beq_iff_eq.mpr c29
                    have c29b1 : (t177 != 0) = false := bne_eq_false_iff_eq.mpr c29
                    clear c29
                    by_cases c30 : t179 = 0
                    · rw [if_pos c30] at H
                      have c30b0 : (t179 == 0) = true := beq_iff_eq.mpr c30
                      have c30b1 : (t179 != 0) = false := bne_eq_false_iff_eq.mpr c30
                      clear c30
                      by_cases c31 : (IntKind.u64.wrap (t176)) = t178
                      · rw [if_pos c31] at H
                        have c31b0 : ((IntKind.u64.wrap (t176)) == t178) = true := beq_iff_eq.mpr c31
                        have c31b1 : ((IntKind.u64.wrap (t176)) != t178) = false := bne_eq_false_iff_eq.mpr c31
                        clear c31
                        replace H := Option.bind_eq_some_iff.mp H
                        obtain ⟨t180, A320, H⟩ := H
                        replace H : (if t180 = 1 then (cullettop_WholeFields.j2 kj15 a0 a1 ((a0) % 256) ((a1) % 256)) else (some false)) = some r := H
                        have A32 := Aside0.mk A320
                        clear A320
                        by_cases c33 : t180 = 1
                        · rw [if_pos c33] at H
                          have c33b0 : (t180 == 1) = true := beq_iff_eq.mpr c33
                          have c33b1 : (t180 != 1) = false := bne_eq_false_iff_eq.mpr c33
                          clear c33
                          have H' := Aside0.mk H
                          clear H
                          go_wp2_with (first | ((with_reducible refine gate_callee (f := 36) rfl ?_); refine goesL_ (some 96) rfl rfl Try.func36 (by kernel_rfl) rfl #[.pointer (some ⟨g164, 0, none⟩), .int .u8 ((a0) % 256)] rfl (by (try simp only [List.map_toArray, List.map_cons, List.map_nil]); first | done | rfl | (simp only [tb_wrap8]; done) | (simp only [tb_wrap8]; rfl) | (simp only [List.length_drop, List.length_take]; rfl)) ?_; (with_reducible refine (gf8_Tables_Inv.calls g164 ((a0) % 256) t176 t177 _ ?side1 A27.out).mono ?_); (case side1 => repeat (first | (with_reducible first | exact HI164.out | apply IsS88.alloc | apply IsS88.drewN | apply IsS88.drew) | exact HI164.out)); rintro e w' ⟨rfl, ⟨nd, rfl⟩⟩; refine ⟨_, rfl, ?_⟩) | ((with_reducible refine gate_callee (f := 37) rfl ?_); refine goesL_ (some 102) rfl rfl Try.func37 (by kernel_rfl) rfl #[.int .u64 (IntKind.u64.wrap (((a0) % 256))), .int .u64 285] rfl (by (try simp only [List.map_toArray, List.map_cons, List.map_nil]); first | done | rfl | (simp only [tb_wrap8]; done) | (simp only [tb_wrap8]; rfl) | (simp only [List.length_drop, List.length_take]; rfl)) ?_; (with_reducible refine (ring_InvMod.calls kj15 (IntKind.u64.wrap (((a0) % 256))) 285 t178 t179 _ A28.out).mono ?_); rintro e w' ⟨rfl, ⟨nd, rfl⟩⟩; refine ⟨_, rfl, ?_⟩) | (go_at_call 34; (with_reducible refine (gf8_Tables_Mul.calls g164 ((a0) % 256) t176 t180 _ ?side1 A32.out).mono ?_); (case side1 => repeat (first | (with_reducible first | exact HI164.out | apply IsS88.alloc | apply IsS88.drewN | apply IsS88.drew) | exact HI164.out)); rintro e w' ⟨rfl, ⟨nd, rfl⟩⟩))
                          go_meet
                          case rel => exact ⟨_, H', ⟨by have := HJ6.out; have := HJ15.out; first | omega | exact Nat.le_refl _⟩, ⟨by repeat (first | (with_reducible first | exact HI164.out | apply IsS88.alloc | apply IsS88.drewN | apply IsS88.drew) | exact HI164.out)⟩, ⟨by repeat (first | (with_reducible first | exact HI165.out | apply IsS66.alloc | apply IsS66.drewN | apply IsS66.drew) | exact HI165.out)⟩, ⟨by repeat (first | (with_reducible first | exact HB.out | apply below_alloc | apply pw_below_drewN | apply below_drew1 | refine below_set ?_ (IsS88.ge HI164.out) | refine below_set ?_ (IsS66.ge HI165.out)) | exact HB.out)⟩⟩
                        · rw [if_neg c33] at H
                          have c33b0 : (t180 == 1) = false := beq_eq_false_iff_ne.mpr c33
                          have c33b1 : (t180 != 1) = true := bne_iff_ne.mpr c33
                          obtain rfl := Option.some.inj H
                          go_wp2_with (first | ((with_reducible refine gate_callee (f := 36) rfl ?_); refine goesL_ (some 96) rfl rfl Try.func36 (by kernel_rfl) rfl #[.pointer (some ⟨g164, 0, none⟩), .int .u8 ((a0) % 256)] rfl (by (try simp only [List.map_toArray, List.map_cons, List.map_nil]); first | done | rfl | (simp only [tb_wrap8]; done) | (simp only [tb_wrap8]; rfl) | (simp only [List.length_drop, List.length_take]; rfl)) ?_; (with_reducible refine (gf8_Tables_Inv.calls g164 ((a0) % 256) t176 t177 _ ?side1 A27.out).mono ?_); (case side1 => repeat (first | (with_reducible first | exact HI164.out | apply IsS88.alloc | apply IsS88.drewN | apply IsS88.drew) | exact HI164.out)); rintro e w' ⟨rfl, ⟨nd, rfl⟩⟩; refine ⟨_, rfl, ?_⟩) | ((with_reducible refine gate_callee (f := 37) rfl ?_); refine goesL_ (some 102) rfl rfl Try.func37 (by kernel_rfl) rfl #[.int .u64 (IntKind.u64.wrap (((a0) % 256))), .int .u64 285] rfl (by (try simp only [List.map_toArray, List.map_cons, List.map_nil]); first | done | rfl | (simp only [tb_wrap8]; done) | (simp only [tb_wrap8]; rfl) | (simp only [List.length_drop, List.length_take]; rfl)) ?_; (with_reducible refine (ring_InvMod.calls kj15 (IntKind.u64.wrap (((a0) % 256))) 285 t178 t179 _ A28.out).mono ?_); rintro e w' ⟨rfl, ⟨nd, rfl⟩⟩; refine ⟨_, rfl, ?_⟩) | (go_at_call 34; (with_reducible refine (gf8_Tables_Mul.calls g164 ((a0) % 256) t176 t180 _ ?side1 A32.out).mono ?_); (case side1 => repeat (first | (with_reducible first | exact HI164.out | apply IsS88.alloc | apply IsS88.drewN | apply IsS88.drew) | exact HI164.out)); rintro e w' ⟨rfl, ⟨nd, rfl⟩⟩))
                          go_ret
                          exact ⟨by first | rfl | (simp [errW_none, errW_some] <;> rfl) | (simp [*, errW_none, errW_some] <;> rfl), by repeat (first | (with_reducible first | exact HB.out | apply below_alloc | apply pw_below_drewN | apply below_drew1 | refine below_set ?_ (IsS88.ge HI164.out) | refine below_set ?_ (IsS66.ge HI165.out)) | exact HB.out)⟩
                      · rw [if_neg c31] at H
                        have c31b0 : ((IntKind.u64.wrap (t176)) == t178) = false := beq_eq_false_iff_ne.mpr c31
                        have c31b1 : ((IntKind.u64.wrap (t176)) != t178) = true := bne_iff_ne.mpr c31
                        obtain rfl := Option.some.inj H
                        go_wp2_with (first | ((with_reducible refine gate_callee (f := 36) rfl ?_); refine goesL_ (some 96) rfl rfl Try.func36 (by kernel_rfl) rfl #[.pointer (some ⟨g164, 0, none⟩), .int .u8 ((a0) % 256)] rfl (by (try simp only [List.map_toArray, List.map_cons, List.map_nil]); first | done | rfl | (simp only [tb_wrap8]; done) | (simp only [tb_wrap8]; rfl) | (simp only [List.length_drop, List.length_take]; rfl)) ?_; (with_reducible refine (gf8_Tables_Inv.calls g164 ((a0) % 256) t176 t177 _ ?side1 A27.out).mono ?_); (case side1 => repeat (first | (with_reducible first | exact HI164.out | apply IsS88.alloc | apply IsS88.drewN | apply IsS88.drew) | exact HI164.out)); rintro e w' ⟨rfl, ⟨nd, rfl⟩⟩; refine ⟨_, rfl, ?_⟩) | ((with_reducible refine gate_callee (f := 37) rfl ?_); refine goesL_ (some 102) rfl rfl Try.func37 (by kernel_rfl) rfl #[.int .u64 (IntKind.u64.wrap (((a0) % 256))), .int .u64 285] rfl (by (try simp only [List.map_toArray, List.map_cons, List.map_nil]); first | done | rfl | (simp only [tb_wrap8]; done) | (simp only [tb_wrap8]; rfl) | (simp only [List.length_drop, List.length_take]; rfl)) ?_; (with_reducible refine (ring_InvMod.calls kj15 (IntKind.u64.wrap (((a0) % 256))) 285 t178 t179 _ A28.out).mono ?_); rintro e w' ⟨rfl, ⟨nd, rfl⟩⟩; refine ⟨_, rfl, ?_⟩))
                        go_ret
                        exact ⟨by first | rfl | (simp [errW_none, errW_some] <;> rfl) | (simp [*, errW_none, errW_some] <;> rfl), by repeat (first | (with_reducible first | exact HB.out | apply below_alloc | apply pw_below_drewN | apply below_drew1 | refine below_set ?_ (IsS88.ge HI164.out) | refine below_set ?_ (IsS66.ge HI165.out)) | exact HB.out)⟩
                    · rw [if_neg c30] at H
                      have c30b0 : (t179 == 0) = false := beq_eq_false_iff_ne.mpr c30
                      have c30b1 : (t179 != 0) = true := bne_iff_ne.mpr c30
                      obtain rfl := Option.some.inj H
                      go_wp2_with (first | ((with_reducible refine gate_callee (f := 36) rfl ?_); refine goesL_ (some 96) rfl rfl Try.func36 (by kernel_rfl) rfl #[.pointer (some ⟨g164, 0, none⟩), .int .u8 ((a0) % 256)] rfl (by (try simp only [List.map_toArray, List.map_cons, List.map_nil]); first | done | rfl | (simp only [tb_wrap8]; done) | (simp only [tb_wrap8]; rfl) | (simp only [List.length_drop, List.length_take]; rfl)) ?_; (with_reducible refine (gf8_Tables_Inv.calls g164 ((a0) % 256) t176 t177 _ ?side1 A27.out).mono ?_); (case side1 => repeat (first | (with_reducible first | exact HI164.out | apply IsS88.alloc | apply IsS88.drewN | apply IsS88.drew) | exact HI164.out)); rintro e w' ⟨rfl, ⟨nd, rfl⟩⟩; refine ⟨_, rfl, ?_⟩) | ((with_reducible refine gate_callee (f := 37) rfl ?_); refine goesL_ (some 102) rfl rfl Try.func37 (by kernel_rfl) rfl #[.int .u64 (IntKind.u64.wrap (((a0) % 256))), .int .u64 285] rfl (by (try simp only [List.map_toArray, List.map_cons, List.map_nil]); first | done | rfl | (simp only [tb_wrap8]; done) | (simp only [tb_wrap8]; rfl) | (simp only [List.length_drop, List.length_take]; rfl)) ?_; (with_reducible refine (ring_InvMod.calls kj15 (IntKind.u64.wrap (((a0) % 256))) 285 t178 t179 _ A28.out).mono ?_); rintro e w' ⟨rfl, ⟨nd, rfl⟩⟩; refine ⟨_, rfl, ?_⟩))
                      go_ret
                      exact ⟨by first | rfl | (simp [errW_none, errW_some] <;> rfl) | (simp [*, errW_none, errW_some] <;> rfl), by repeat (first | (with_reducible first | exact HB.out | apply below_alloc | apply pw_below_drewN | apply below_drew1 | refine below_set ?_ (IsS88.ge HI164.out) | refine below_set ?_ (IsS66.ge HI165.out)) | exact HB.out)⟩
                  · rw [if_neg c29] at H
                    have c29b0 : (t177 == 0) = false := beq_eq_false_iff_ne.mpr c29
                    have c29b1 : (t177 != 0) = true := bne_iff_ne.mpr c29
                    obtain rfl := Option.some.inj H
                    go_wp2_with (first | ((with_reducible refine gate_callee (f := 36) rfl ?_); refine goesL_ (some 96) rfl rfl Try.func36 (by kernel_rfl) rfl #[.pointer (some ⟨g164, 0, none⟩), .int .u8 ((a0) % 256)] rfl (by (try simp only [List.map_toArray, List.map_cons, List.map_nil]); first | done | rfl | (simp only [tb_wrap8]; done) | (simp only [tb_wrap8]; rfl) | (simp only [List.length_drop, List.length_take]; rfl)) ?_; (with_reducible refine (gf8_Tables_Inv.calls g164 ((a0) % 256) t176 t177 _ ?side1 A27.out).mono ?_); (case side1 => repeat (first | (with_reducible first | exact HI164.out | apply IsS88.alloc | apply IsS88.drewN | apply IsS88.drew) | exact HI164.out)); rintro e w' ⟨rfl, ⟨nd, rfl⟩⟩; refine ⟨_, rfl, ?_⟩) | ((with_reducible refine gate_callee (f := 37) rfl ?_); refine goesL_ (some 102) rfl rfl Try.func37 (by kernel_rfl) rfl #[.int .u64 (IntKind.u64.wrap (((a0) % 256))), .int .u64 285] rfl (by (try simp only [List.map_toArray, List.map_cons, List.map_nil]); first | done | rfl | (simp only [tb_wrap8]; done) | (simp only [tb_wrap8]; rfl) | (simp only [List.length_drop, List.length_take]; rfl)) ?_; (with_reducible refine (ring_InvMod.calls kj15 (IntKind.u64.wrap (((a0) % 256))) 285 t178 t179 _ A28.out).mono ?_); rintro e w' ⟨rfl, ⟨nd, rfl⟩⟩; refine ⟨_, rfl, ?_⟩))
                    go_ret
                    exact ⟨by first | rfl | (simp [errW_none, errW_some] <;> rfl) | (simp [*, errW_none, errW_some] <;> rfl), by repeat (first | (with_reducible first | exact HB.out | apply below_alloc | apply pw_below_drewN | apply below_drew1 | refine below_set ?_ (IsS88.ge HI164.out) | refine below_set ?_ (IsS66.ge HI165.out)) | exact HB.out)⟩
              case rest =>
                clear HC25
                try clear c1
                try clear c2
                try clear p2
                try clear c3
                try clear p8
                try clear c10
                try clear c10b0
                try clear c10b1
                try clear c11
                try clear c11b0
                try clear c11b1
                try clear c12
                try clear c13
                try clear c13b0
                try clear c13b1
                try clear c15
                try clear c18
                try clear c18b0
                try clear c18b1
                try clear c20
                try clear c20b0
                try clear c20b1
                try clear c22
                try clear c22b0
                try clear c22b1
                try clear c24
                try clear c26
                try clear c26b0
                try clear c26b1
                try clear c29
                try clear c29b0
                try clear c29b1
                try clear c30
                try clear c30b0
                try clear c30b1
                try clear c31
                try clear c31b0
                try clear c31b1
                try clear c33
                try clear c33b0
                try clear c33b1
                try clear p2
                try clear p8
                obtain ⟨kq, HA, HJ24, HI164, HI165, HB⟩ := hcut
                cases kq with
                | zero => exact absurd HA.out (by simp [cullettop_WholeFields.j2])
                | succ kj24 =>
                  have H := HA.out
                  clear HA
                  simp only [cullettop_WholeFields.j2] at H
                  by_cases c34 : a0 = 0
                  · rw [if_pos c34] at H
                    have c34b0 : (a0 == 0) = true := beq_iff_eq.mpr c34
                    have c34b1 : (a0 != 0) = false := bne_eq_false_iff_eq.mpr c34
                    clear c34
                    replace H := Option.bind_eq_some_iff.mp H
                    obtain ⟨t181, A350, H⟩ := H
                    replace H : (if t181 = true then ((cullettop_logs16.f kj24 a0 a1).bind fun t182 => (some t182)) else (some false)) = some r := H
                    have A35 := Aside0.mk A350
                    clear A350
                    by_cases c36 : t181 = true
                    · subst c36
                      have H1 : ((cullettop_logs16.f kj24 a0 a1).bind fun t182 => (some t182)) = some r := by rw [if_pos rfl] at H; exact H
                      clear H
                      have H := H1
                      clear H1
                      replace H := Option.bind_eq_some_iff.mp H
                      obtain ⟨t182, A370, H⟩ := H
                      replace H : (some t182) = some r := H
                      have A37 := Aside0.mk A370
                      clear A370
                      obtain rfl := Option.some.inj H
                      go_wp2_with (first | ((with_reducible refine gate_callee (f := 39) rfl ?_); refine goesL_ (some 160) rfl rfl Try.func39 (by kernel_rfl) rfl #[.pointer (some ⟨g164, 0, none⟩), .int .u8 ((a0) % 256), .int .u8 ((a1) % 256)] rfl (by (try simp only [List.map_toArray, List.map_cons, List.map_nil]); first | done | rfl | (simp only [tb_wrap8]; done) | (simp only [tb_wrap8]; rfl) | (simp only [List.length_drop, List.length_take]; rfl)) ?_; (with_reducible refine (cullettop_logs8.calls kj24 g164 ((a0) % 256) ((a1) % 256) true _ ?side1 A35.out).mono ?_); (case side1 => repeat (first | (with_reducible first | exact HI164.out | apply IsS88.alloc | apply IsS88.drewN | apply IsS88.drew) | exact HI164.out)); rintro e w' ⟨rfl, ⟨nd, rfl⟩⟩; refine ⟨_, rfl, ?_⟩) | (go_at_call 40; (with_reducible refine (cullettop_logs16.calls kj24 g165 a0 a1 t182 _ ?side1 A37.out).mono ?_); (case side1 => repeat (first | (with_reducible first | exact HI165.out | apply IsS66.alloc | apply IsS66.drewN | apply IsS66.drew) | exact HI165.out)); rintro e w' ⟨rfl, ⟨nd, rfl⟩⟩))
                      go_ret
                      exact ⟨by first | rfl | (simp [errW_none, errW_some] <;> rfl) | (simp [*, errW_none, errW_some] <;> rfl), by repeat (first | (with_reducible first | exact HB.out | apply below_alloc | apply pw_below_drewN | apply below_drew1 | refine below_set ?_ (IsS88.ge HI164.out) | refine below_set ?_ (IsS66.ge HI165.out)) | exact HB.out)⟩
                    · replace c36 := Bool.eq_false_iff.mpr c36
                      subst c36
                      have H1 : (some false) = some r := by rw [if_neg (show ¬ (false = true) by decide)] at H; exact H
                      clear H
                      have H := H1
                      clear H1
                      obtain rfl := Option.some.inj H
                      go_wp2_with (first | ((with_reducible refine gate_callee (f := 39) rfl ?_); refine goesL_ (some 160) rfl rfl Try.func39 (by kernel_rfl) rfl #[.pointer (some ⟨g164, 0, none⟩), .int .u8 ((a0) % 256), .int .u8 ((a1) % 256)] rfl (by (try simp only [List.map_toArray, List.map_cons, List.map_nil]); first | done | rfl | (simp only [tb_wrap8]; done) | (simp only [tb_wrap8]; rfl) | (simp only [List.length_drop, List.length_take]; rfl)) ?_; (with_reducible refine (cullettop_logs8.calls kj24 g164 ((a0) % 256) ((a1) % 256) false _ ?side1 A35.out).mono ?_); (case side1 => repeat (first | (with_reducible first | exact HI164.out | apply IsS88.alloc | apply IsS88.drewN | apply IsS88.drew) | exact HI164.out)); rintro e w' ⟨rfl, ⟨nd, rfl⟩⟩; refine ⟨_, rfl, ?_⟩))
                      go_ret
                      exact ⟨by first | rfl | (simp [errW_none, errW_some] <;> rfl) | (simp [*, errW_none, errW_some] <;> rfl), by repeat (first | (with_reducible first | exact HB.out | apply below_alloc | apply pw_below_drewN | apply below_drew1 | refine below_set ?_ (IsS88.ge HI164.out) | refine below_set ?_ (IsS66.ge HI165.out)) | exact HB.out)⟩
                  · rw [if_neg c34] at H
                    have c34b0 : (a0 == 0) = false := beq_eq_false_iff_ne.mpr c34
                    have c34b1 : (a0 != 0) = true := bne_iff_ne.mpr c34
                    replace H := Option.bind_eq_some_iff.mp H
                    obtain ⟨⟨t183, t184⟩, A380, H⟩ := H
                    replace H : ((ring_InvMod.f kj24 (IntKind.u64.wrap (a0)) 65581).bind fun bt185 => (if t184 = 0 then (if bt185.2 = 0 then (if (IntKind.u64.wrap (t183)) = bt185.1 then ((gf16_Tables_Mul.f a0 t183).bind fun t187 => (cullettop_WholeFields.j3 kj24 a0 a1 ((a0) % 256) ((a1) % 256) (t187 != 1))) else (cullettop_WholeFields.j3 kj24 a0 a1 ((a0) % 256) ((a1) % 256) true)) else (cullettop_WholeFields.j3 kj24 a0 a1 ((a0) % 256) ((a1) % 256) true)) else (cullettop_WholeFields.j3 kj24 a0 a1 ((a0) % 256) ((a1) % 256) true))) = some r := H
                    have A38 := Aside0.mk A380
                    clear A380
                    replace H := Option.bind_eq_some_iff.mp H
                    obtain ⟨⟨t185, t186⟩, A390, H⟩ := H
                    replace H : (if t184 = 0 then (if t186 = 0 then (if (IntKind.u64.wrap (t183)) = t185 then ((gf16_Tables_Mul.f a0 t183).bind fun t187 => (cullettop_WholeFields.j3 kj24 a0 a1 ((a0) % 256) ((a1) % 256) (t187 != 1))) else (cullettop_WholeFields.j3 kj24 a0 a1 ((a0) % 256) ((a1) % 256) true)) else (cullettop_WholeFields.j3 kj24 a0 a1 ((a0) % 256) ((a1) % 256) true)) else (cullettop_WholeFields.j3 kj24 a0 a1 ((a0) % 256) ((a1) % 256) true)) = some r := H
                    have A39 := Aside0.mk A390
                    clear A390
                    have HC40 := Aside0.mk H
                    clear H
                    go_upto_region 17 with (first | ((with_reducible refine gate_callee (f := 38) rfl ?_); refine goesL_ (some 129) rfl rfl Try.func38 (by kernel_rfl) rfl #[.pointer (some ⟨g165, 0, none⟩), .int .u16 a0] rfl (by (try simp only [List.map_toArray, List.map_cons, List.map_nil]); first | done | rfl | (simp only [tb_wrap8]; done) | (simp only [tb_wrap8]; rfl) | (simp only [List.length_drop, List.length_take]; rfl)) ?_; (with_reducible refine (gf16_Tables_Inv.calls g165 a0 t183 t184 _ ?side1 A38.out).mono ?_); (case side1 => repeat (first | (with_reducible first | exact HI165.out | apply IsS66.alloc | apply IsS66.drewN | apply IsS66.drew) | exact HI165.out)); rintro e w' ⟨rfl, ⟨nd, rfl⟩⟩; refine ⟨_, rfl, ?_⟩) | ((with_reducible refine gate_callee (f := 37) rfl ?_); refine goesL_ (some 135) rfl rfl Try.func37 (by kernel_rfl) rfl #[.int .u64 (IntKind.u64.wrap (a0)), .int .u64 65581] rfl (by (try simp only [List.map_toArray, List.map_cons, List.map_nil]); first | done | rfl | (simp only [tb_wrap8]; done) | (simp only [tb_wrap8]; rfl) | (simp only [List.length_drop, List.length_take]; rfl)) ?_; (with_reducible refine (ring_InvMod.calls kj24 (IntKind.u64.wrap (a0)) 65581 t185 t186 _ A39.out).mono ?_); rintro e w' ⟨rfl, ⟨nd, rfl⟩⟩; refine ⟨_, rfl, ?_⟩))
                    (try simp only [Act.put, List.setIfInBounds_toArray, List.set_cons_zero, List.set_cons_succ])
                    go_cut [156] (fun v156 wc => ∃ (kq : Nat) (x156_39 : Bool), v156 = .bool x156_39 ∧ Aside0 (cullettop_WholeFields.j3 kq a0 a1 ((a0) % 256) ((a1) % 256) x156_39 = some r) ∧ Aside0 (kq ≤ kj24) ∧ Aside0 (IsS88 w wc g164 ) ∧ Aside0 (IsS66 w wc g165 ) ∧ Aside0 (Below w.heap.size w wc))
                    case first =>
                      have H := HC40.out
                      clear HC40
                      by_cases c41 : t184 = 0
                      · rw [if_pos c41] at H
                        have c41b0 : (t184 == 0) = true := beq_iff_eq.mpr c41
                        have c41b1 : (t184 != 0) = false := bne_eq_false_iff_eq.mpr c41
                        clear c41
                        (first | rw [c41b0] | (simp only [i64_w, i32_w]; rw [c41b0]) | skip)
                        by_cases c42 : t186 = 0
                        · rw [if_pos c42] at H
                          have c42b0 : (t186 == 0) = true := beq_iff_eq.mpr c42
                          have c42b1 : (t186 != 0) = false := bne_eq_false_iff_eq.mpr c42
                          clear c42
                          by_cases c43 : (IntKind.u64.wrap (t183)) = t185
                          · rw [if_pos c43] at H
                            have c43b0 : ((IntKind.u64.wrap (t183)) == t185) = true := beq_iff_eq.mpr c43
                            have c43b1 : ((IntKind.u64.wrap (t183)) != t185) = false := bne_eq_false_iff_eq.mpr c43
                            clear c43
                            replace H := Option.bind_eq_some_iff.mp H
                            obtain ⟨t187, A440, H⟩ := H
                            replace H : (cullettop_WholeFields.j3 kj24 a0 a1 ((a0) % 256) ((a1) % 256) (t187 != 1)) = some r := H
                            have A44 := Aside0.mk A440
                            clear A440
                            have H' := Aside0.mk H
                            clear H
                            go_wp2_with (first | (go_at_call 25; (with_reducible refine (gf16_Tables_Mul.calls g165 a0 t183 t187 _ ?side1 A44.out).mono ?_); (case side1 => repeat (first | (with_reducible first | exact HI165.out | apply IsS66.alloc | apply IsS66.drewN | apply IsS66.drew) | exact HI165.out)); rintro e w' ⟨rfl, ⟨nd, rfl⟩⟩))
                            go_meet
                            case rel => exact ⟨_, ((t187 != 1)), (by first | rfl | (simp; done) | (simp [*]; done)), H', ⟨by have := HJ6.out; have := HJ15.out; have := HJ24.out; first | omega | exact Nat.le_refl _⟩, ⟨by repeat (first | (with_reducible first | exact HI164.out | apply IsS88.alloc | apply IsS88.drewN | apply IsS88.drew) | exact HI164.out)⟩, ⟨by repeat (first | (with_reducible first | exact HI165.out | apply IsS66.alloc | apply IsS66.drewN | apply IsS66.drew) | exact HI165.out)⟩, ⟨by repeat (first | (with_reducible first | exact HB.out | apply below_alloc | apply pw_below_drewN | apply below_drew1 | refine below_set ?_ (IsS88.ge HI164.out) | refine below_set ?_ (IsS66.ge HI165.out)) | exact HB.out)⟩⟩
                          · rw [if_neg c43] at H
                            have c43b0 : ((IntKind.u64.wrap (t183)) == t185) = false := beq_eq_false_iff_ne.mpr c43
                            have c43b1 : ((IntKind.u64.wrap (t183)) != t185) = true := bne_iff_ne.mpr c43
                            have H' := Aside0.mk H
                            clear H
                            go_wp2
                            go_meet
                            case rel => exact ⟨_, (true), (by first | rfl | (simp; done) | (simp [*]; done)), H', ⟨by have := HJ6.out; have := HJ15.out; have := HJ24.out; first | omega | exact Nat.le_refl _⟩, ⟨by repeat (first | (with_reducible first | exact HI164.out | apply IsS88.alloc | apply IsS88.drewN | apply IsS88.drew) | exact HI164.out)⟩, ⟨by repeat (first | (with_reducible first | exact HI165.out | apply IsS66.alloc | apply IsS66.drewN | apply IsS66.drew) | exact HI165.out)⟩, ⟨by repeat (first | (with_reducible first | exact HB.out | apply below_alloc | apply pw_below_drewN | apply below_drew1 | refine below_set ?_ (IsS88.ge HI164.out) | refine below_set ?_ (IsS66.ge HI165.out)) | exact HB.out)⟩⟩
                        · rw [if_neg c42] at H
                          have c42b0 : (t186 == 0) = false := beq_eq_false_iff_ne.mpr c42
                          have c42b1 : (t186 != 0) = true := bne_iff_ne.mpr c42
                          have H' := Aside0.mk H
                          clear H
                          go_wp2
                          go_meet
                          case rel => exact ⟨_, (true), (by first | rfl | (simp; done) | (simp [*]; done)), H', ⟨by have := HJ6.out; have := HJ15.out; have := HJ24.out; first | omega | exact Nat.le_refl _⟩, ⟨by repeat (first | (with_reducible first | exact HI164.out | apply IsS88.alloc | apply IsS88.drewN | apply IsS88.drew) | exact HI164.out)⟩, ⟨by repeat (first | (with_reducible first | exact HI165.out | apply IsS66.alloc | apply IsS66.drewN | apply IsS66.drew) | exact HI165.out)⟩, ⟨by repeat (first | (with_reducible first | exact HB.out | apply below_alloc | apply pw_below_drewN | apply below_drew1 | refine below_set ?_ (IsS88.ge HI164.out) | refine below_set ?_ (IsS66.ge HI165.out)) | exact HB.out)⟩⟩
                      · rw [if_neg c41] at H
                        have c41b0 : (t184 == 0) = false := beq_eq_false_iff_ne.mpr c41
                        have c41b1 : (t184 != 0) = true := bne_iff_ne.mpr c41
                        (first | rw [c41b0] | (simp only [i64_w, i32_w]; rw [c41b0]) | skip)
                        have H' := Aside0.mk H
                        clear H
                        go_wp2
                        go_meet
                        case rel => exact ⟨_, (true), (by first | rfl | (simp; done) | (simp [*]; done)), H', ⟨by have := HJ6.out; have := HJ15.out; have := HJ24.out; first | omega | exact Nat.le_refl _⟩, ⟨by repeat (first | (with_reducible first | exact HI164.out | apply IsS88.alloc | apply IsS88.drewN | apply IsS88.drew) | exact HI164.out)⟩, ⟨by repeat (first | (with_reducible first | exact HI165.out | apply IsS66.alloc | apply IsS66.drewN | apply IsS66.drew) | exact HI165.out)⟩, ⟨by repeat (first | (with_reducible first | exact HB.out | apply below_alloc | apply pw_below_drewN | apply below_drew1 | refine below_set ?_ (IsS88.ge HI164.out) | refine below_set ?_ (IsS66.ge HI165.out)) | exact HB.out)⟩⟩
                    case rest =>
                      clear HC40
                      try clear c1
                      try clear c2
                      try clear p2
                      try clear c3
                      try clear c4
                      try clear p8
                      try clear c10
                      try clear c10b0
                      try clear c10b1
                      try clear c11
                      try clear c11b0
                      try clear c11b1
                      try clear c12
                      try clear c13
                      try clear c13b0
                      try clear c13b1
                      try clear c15
                      try clear c18
                      try clear c18b0
                      try clear c18b1
                      try clear c20
                      try clear c20b0
                      try clear c20b1
                      try clear c22
                      try clear c22b0
                      try clear c22b1
                      try clear c24
                      try clear c26
                      try clear c26b0
                      try clear c26b1
                      try clear c29
                      try clear c29b0
                      try clear c29b1
                      try clear c30
                      try clear c30b0
                      try clear c30b1
                      try clear c31
                      try clear c31b0
                      try clear c31b1
                      try clear c33
                      try clear c33b0
                      try clear c33b1
                      try clear c34
                      try clear c34b0
                      try clear c34b1
                      try clear c36
                      try clear c37
                      try clear c38
                      try clear c39
                      try clear c41
                      try clear c41b0
                      try clear c41b1
                      try clear c42
                      try clear c42b0
                      try clear c42b1
                      try clear c43
                      try clear c43b0
                      try clear c43b1
                      try clear p2
                      try clear p8
                      obtain ⟨kq, x156_39, rfl, HA, HJ39, HI164, HI165, HB⟩ := hcut
                      cases kq with
                      | zero => exact absurd HA.out (by simp [cullettop_WholeFields.j3])
                      | succ kj39 =>
                        have H := HA.out
                        clear HA
                        simp only [cullettop_WholeFields.j3] at H
                        by_cases c45 : x156_39 = true
                        · subst c45
                          have H1 : (some false) = some r := by rw [if_pos rfl] at H; exact H
                          clear H
                          have H := H1
                          clear H1
                          obtain rfl := Option.some.inj H
                          go_wp2
                          go_ret
                          exact ⟨by first | rfl | (simp [errW_none, errW_some] <;> rfl) | (simp [*, errW_none, errW_some] <;> rfl), by repeat (first | (with_reducible first | exact HB.out | apply below_alloc | apply pw_below_drewN | apply below_drew1 | refine below_set ?_ (IsS88.ge HI164.out) | refine below_set ?_ (IsS66.ge HI165.out)) | exact HB.out)⟩
                        · replace c45 := Bool.eq_false_iff.mpr c45
                          subst c45
                          have H1 : ((cullettop_logs8.f kj39 ((a0) % 256) ((a1) % 256)).bind fun t188 => (if t188 = true then ((cullettop_logs16.f kj39 a0 a1).bind fun t189 => (some t189)) else (some false))) = some r := by rw [if_neg (show ¬ (false = true) by decide)] at H; exact H
                          clear H
                          have H := H1
                          clear H1
                          replace H := Option.bind_eq_some_iff.mp H
                          obtain ⟨t188, A460, H⟩ := H
                          replace H : (if t188 = true then ((cullettop_logs16.f kj39 a0 a1).bind fun t189 => (some t189)) else (some false)) = some r := H
                          have A46 := Aside0.mk A460
                          clear A460
                          by_cases c47 : t188 = true
                          · subst c47
                            have H1 : ((cullettop_logs16.f kj39 a0 a1).bind fun t189 => (some t189)) = some r := by rw [if_pos rfl] at H; exact H
                            clear H
                            have H := H1
                            clear H1
                            replace H := Option.bind_eq_some_iff.mp H
                            obtain ⟨t189, A480, H⟩ := H
                            replace H : (some t189) = some r := H
                            have A48 := Aside0.mk A480
                            clear A480
                            obtain rfl := Option.some.inj H
                            go_wp2_with (first | ((with_reducible refine gate_callee (f := 39) rfl ?_); refine goesL_ (some 160) rfl rfl Try.func39 (by kernel_rfl) rfl #[.pointer (some ⟨g164, 0, none⟩), .int .u8 ((a0) % 256), .int .u8 ((a1) % 256)] rfl (by (try simp only [List.map_toArray, List.map_cons, List.map_nil]); first | done | rfl | (simp only [tb_wrap8]; done) | (simp only [tb_wrap8]; rfl) | (simp only [List.length_drop, List.length_take]; rfl)) ?_; (with_reducible refine (cullettop_logs8.calls kj39 g164 ((a0) % 256) ((a1) % 256) true _ ?side1 A46.out).mono ?_); (case side1 => repeat (first | (with_reducible first | exact HI164.out | apply IsS88.alloc | apply IsS88.drewN | apply IsS88.drew) | exact HI164.out)); rintro e w' ⟨rfl, ⟨nd, rfl⟩⟩; refine ⟨_, rfl, ?_⟩) | (go_at_call 40; (with_reducible refine (cullettop_logs16.calls kj39 g165 a0 a1 t189 _ ?side1 A48.out).mono ?_); (case side1 => repeat (first | (with_reducible first | exact HI165.out | apply IsS66.alloc | apply IsS66.drewN | apply IsS66.drew) | exact HI165.out)); rintro e w' ⟨rfl, ⟨nd, rfl⟩⟩))
                            go_ret
                            exact ⟨by first | rfl | (simp [errW_none, errW_some] <;> rfl) | (simp [*, errW_none, errW_some] <;> rfl), by repeat (first | (with_reducible first | exact HB.out | apply below_alloc | apply pw_below_drewN | apply below_drew1 | refine below_set ?_ (IsS88.ge HI164.out) | refine below_set ?_ (IsS66.ge HI165.out)) | exact HB.out)⟩
                          · replace c47 := Bool.eq_false_iff.mpr c47
                            subst c47
                            have H1 : (some false) = some r := by rw [if_neg (show ¬ (false = true) by decide)] at H; exact H
                            clear H
                            have H := H1
                            clear H1
                            obtain rfl := Option.some.inj H
                            go_wp2_with (first | ((with_reducible refine gate_callee (f := 39) rfl ?_); refine goesL_ (some 160) rfl rfl Try.func39 (by kernel_rfl) rfl #[.pointer (some ⟨g164, 0, none⟩), .int .u8 ((a0) % 256), .int .u8 ((a1) % 256)] rfl (by (try simp only [List.map_toArray, List.map_cons, List.map_nil]); first | done | rfl | (simp only [tb_wrap8]; done) | (simp only [tb_wrap8]; rfl) | (simp only [List.length_drop, List.length_take]; rfl)) ?_; (with_reducible refine (cullettop_logs8.calls kj39 g164 ((a0) % 256) ((a1) % 256) false _ ?side1 A46.out).mono ?_); (case side1 => repeat (first | (with_reducible first | exact HI164.out | apply IsS88.alloc | apply IsS88.drewN | apply IsS88.drew) | exact HI164.out)); rintro e w' ⟨rfl, ⟨nd, rfl⟩⟩; refine ⟨_, rfl, ?_⟩))
                            go_ret
                            exact ⟨by first | rfl | (simp [errW_none, errW_some] <;> rfl) | (simp [*, errW_none, errW_some] <;> rfl), by repeat (first | (with_reducible first | exact HB.out | apply below_alloc | apply pw_below_drewN | apply below_drew1 | refine below_set ?_ (IsS88.ge HI164.out) | refine below_set ?_ (IsS66.ge HI165.out)) | exact HB.out)⟩

/-- THE ONE PURE STATEMENT of cullettop_WholeFields: yours. -/
def cullettop_WholeFields.Pure : Prop := ∀ (a0 : Int) (a1 : Int), (Lit.int .u16 a0).wf = true → (Lit.int .u16 a1).wf = true → ∃ k, cullettop_WholeFields.f k a0 a1 = some true
theorem cullettop_WholeFields.walk (P : cullettop_WholeFields.Pure) (a0 : Int) (a1 : Int) (w : World) (w0 : (Lit.int .u16 a0).wf = true) (w1 : (Lit.int .u16 a1).wf = true) :
    Calls Try.prog 12 #[.int .u16 a0, .int .u16 a1] w fun e w' => e = .returned (.bool true) ∧ Below w.heap.size w w' := by
  obtain ⟨k, h⟩ := P a0 a1 w0 w1
  refine (cullettop_WholeFields.calls k a0 a1 true w h).mono ?_
  rintro e w' ⟨rfl, hd⟩
  exact ⟨rfl, hd⟩

end Go.Proofs.Ytedaifgbnojojaa.Q
