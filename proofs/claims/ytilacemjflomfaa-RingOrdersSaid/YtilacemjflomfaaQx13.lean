-- Printed for this claim by mp.py, a program of its prover, through the kit's print. Lean checks it.
import Derived.Test.YtilacemjflomfaaQx0
import Derived.Test.YtilacemjflomfaaQx1
import Derived.Test.YtilacemjflomfaaQx3
import Derived.Test.YtilacemjflomfaaQx6
import Derived.Test.YtilacemjflomfaaQx9
import Derived.Test.YtilacemjflomfaaQx10
namespace Go.Proofs.Ytilacemjflomfaa.Q
open Go.RowKit Go.Proofs.YtilacemjflomfaaW.PrintWords Go.Proofs.YtilacemjflomfaaW.PrintLast Go.Proofs.YtilacemjflomfaaW.PrintMore
attribute [local go_sem] max2_int min2_int max_two min_two max_three min_three max_four min_four   -- for this text's walks alone
set_option linter.unusedVariables false
set_option linter.unusedSimpArgs false

/-! ### culletlaw01_RingOrders: function 11 -/
mutual
def culletlaw01_RingOrders.j0 : Nat → Int → Int → Bool → Option (Bool)
  | 0, _, _, _ => none
  | k + 1, x0, x1, x30 => if x30 = true then (some false) else ((culletlaw01_high.f k x1).bind fun t251 => (if t251 < 1 then (culletlaw01_RingOrders.j1 k x0 x1 t251 true) else (culletlaw01_RingOrders.j1 k x0 x1 t251 (decide (t251 > 16)))))
def culletlaw01_RingOrders.j1 : Nat → Int → Int → Int → Bool → Option (Bool)
  | 0, _, _, _, _ => none
  | k + 1, x0, x1, x7, x38 => if x38 = true then ((ring_Order.f k x0 x1).bind fun bt252 => ((ring_Primitive.f k x1).bind fun bt254 => (if bt252.1 = 0 then (if bt254.1 = true then (some false) else (if bt252.2 = 11 then (some (bt254.2 == 11)) else (some false))) else (some false)))) else ((ring_Order.f k x0 x1).bind fun bt256 => ((ring_Gcd.f k x0 x1).bind fun t258 => (if t258 = 1 then (if bt256.2 = 0 then (if bt256.1 < 1 then (culletlaw01_RingOrders.j2 k x0 x1 bt256.1 x7 true) else (culletlaw01_RingOrders.j2 k x0 x1 bt256.1 x7 (decide (bt256.1 ≥ 65536)))) else (culletlaw01_RingOrders.j2 k x0 x1 bt256.1 x7 true)) else (if bt256.1 = 0 then (some (bt256.2 == 12)) else (some false)))))
def culletlaw01_RingOrders.j2 : Nat → Int → Int → Int → Int → Bool → Option (Bool)
  | 0, _, _, _, _, _ => none
  | k + 1, x0, x1, x5, x7, x89 => if x89 = true then (some false) else ((ring_PowMod.f k x0 (IntKind.u64.wrap (x5)) x1).bind fun bt259 => (if bt259.1 = 1 then (culletlaw01_RingOrders.l0 k x0 x1 x5 x7 x5 2) else (some false)))
def culletlaw01_RingOrders.l0 : Nat → Int → Int → Int → Int → Int → Int → Option (Bool)
  | 0, _, _, _, _, _, _ => none
  | k + 1, x0, x1, x5, x7, x12, x13 => if x13 ≤ x12 then (if x13 = 0 then (none) else (if (Int.tmod x12 x13) = 0 then (culletlaw01_RingOrders.l1 k x0 x1 x5 x7 x12 x13) else (culletlaw01_RingOrders.l0 k x0 x1 x5 x7 x12 (wrap64 (x13 + 1))))) else (if 0 ≤ (IntKind.u64.wrap (x7)) then ((ring_Irreducible.f k x1).bind fun bt263 => (if bt263.1 = true then (if x5 = 0 then (none) else (culletlaw01_RingOrders.j5 k x1 (wrap64 ((shl .i64 1 (IntKind.u64.wrap (x7))) - 1)) bt263.1 ((Int.tmod (wrap64 ((shl .i64 1 (IntKind.u64.wrap (x7))) - 1)) x5) != 0))) else (culletlaw01_RingOrders.j5 k x1 (wrap64 ((shl .i64 1 (IntKind.u64.wrap (x7))) - 1)) bt263.1 false))) else (none))
def culletlaw01_RingOrders.l1 : Nat → Int → Int → Int → Int → Int → Int → Option (Bool)
  | 0, _, _, _, _, _, _ => none
  | k + 1, x0, x1, x5, x7, x12, x13 => if x13 = 0 then (none) else (if (Int.tmod x12 x13) = 0 then (culletlaw01_RingOrders.l1 k x0 x1 x5 x7 (wrap64 (Int.tdiv x12 x13)) x13) else ((ring_PowMod.f k x0 (IntKind.u64.wrap (wrap64 (Int.tdiv x5 x13))) x1).bind fun bt261 => (if bt261.1 = 1 then (some false) else (culletlaw01_RingOrders.l0 k x0 x1 x5 x7 x12 (wrap64 (x13 + 1))))))
def culletlaw01_RingOrders.j5 : Nat → Int → Int → Bool → Bool → Option (Bool)
  | 0, _, _, _, _ => none
  | k + 1, x1, x14, x15, x144 => if x144 = true then (some false) else ((ring_Order.f k 2 x1).bind fun bt265 => ((ring_Primitive.f k x1).bind fun bt267 => (if bt267.2 = 0 then (if x15 = true then (some (bt267.1 == (bt265.1 == x14))) else (some (bt267.1 == false))) else (some false))))
end
def culletlaw01_RingOrders.f (k : Nat) (a0 : Int) (a1 : Int) : Option (Bool) := (ring_Order.f k 2 285).bind fun bt249 => (if bt249.1 = 255 then (culletlaw01_RingOrders.j0 k a0 a1 (bt249.2 != 0)) else (culletlaw01_RingOrders.j0 k a0 a1 true))
theorem culletlaw01_RingOrders.mono_l : ∀ k, (∀ y0 y1 y2, LeO (culletlaw01_RingOrders.j0 k y0 y1 y2) (culletlaw01_RingOrders.j0 (k + 1) y0 y1 y2)) ∧ (∀ y0 y1 y2 y3, LeO (culletlaw01_RingOrders.j1 k y0 y1 y2 y3) (culletlaw01_RingOrders.j1 (k + 1) y0 y1 y2 y3)) ∧ (∀ y0 y1 y2 y3 y4, LeO (culletlaw01_RingOrders.j2 k y0 y1 y2 y3 y4) (culletlaw01_RingOrders.j2 (k + 1) y0 y1 y2 y3 y4)) ∧ (∀ y0 y1 y2 y3 y4 y5, LeO (culletlaw01_RingOrders.l0 k y0 y1 y2 y3 y4 y5) (culletlaw01_RingOrders.l0 (k + 1) y0 y1 y2 y3 y4 y5)) ∧ (∀ y0 y1 y2 y3 y4 y5, LeO (culletlaw01_RingOrders.l1 k y0 y1 y2 y3 y4 y5) (culletlaw01_RingOrders.l1 (k + 1) y0 y1 y2 y3 y4 y5)) ∧ (∀ y0 y1 y2 y3, LeO (culletlaw01_RingOrders.j5 k y0 y1 y2 y3) (culletlaw01_RingOrders.j5 (k + 1) y0 y1 y2 y3))
  | 0 => ⟨fun _ _ _ r h => by simp [culletlaw01_RingOrders.j0] at h, fun _ _ _ _ r h => by simp [culletlaw01_RingOrders.j1] at h, fun _ _ _ _ _ r h => by simp [culletlaw01_RingOrders.j2] at h, fun _ _ _ _ _ _ r h => by simp [culletlaw01_RingOrders.l0] at h, fun _ _ _ _ _ _ r h => by simp [culletlaw01_RingOrders.l1] at h, fun _ _ _ _ r h => by simp [culletlaw01_RingOrders.j5] at h⟩
  | k + 1 => by
    obtain ⟨ih0, ih1, ih2, ih3, ih4, ih5⟩ := culletlaw01_RingOrders.mono_l k
    refine ⟨?_, ?_, ?_, ?_, ?_, ?_⟩
    · intro y0 y1 y2
      unfold culletlaw01_RingOrders.j0
      repeat' first
      | (with_reducible exact ih0 _ _ _)
      | (with_reducible exact ih1 _ _ _ _)
      | (with_reducible exact ih2 _ _ _ _ _)
      | (with_reducible exact ih3 _ _ _ _ _ _)
      | (with_reducible exact ih4 _ _ _ _ _ _)
      | (with_reducible exact ih5 _ _ _ _)
      | (with_reducible exact culletlaw01_high.mono _ _)
      | (with_reducible exact ring_Gcd.mono _ _ _)
      | (with_reducible exact ring_Irreducible.mono _ _)
      | (with_reducible exact ring_Order.mono _ _ _)
      | (with_reducible exact ring_PowMod.mono _ _ _ _)
      | (with_reducible exact ring_Primitive.mono _ _)
      | (with_reducible exact LeO.refl _)
      | (with_reducible exact LeO.none _)
      | (with_reducible refine LeO.ite ?_ ?_)
      | (with_reducible refine LeO.bind ?_ (fun _ => ?_))
      | exact ih0 _ _ _
      | exact ih1 _ _ _ _
      | exact ih2 _ _ _ _ _
      | exact ih3 _ _ _ _ _ _
      | exact ih4 _ _ _ _ _ _
      | exact ih5 _ _ _ _
      | exact culletlaw01_high.mono _ _
      | exact ring_Gcd.mono _ _ _
      | exact ring_Irreducible.mono _ _
      | exact ring_Order.mono _ _ _
      | exact ring_PowMod.mono _ _ _ _
      | exact ring_Primitive.mono _ _
      | exact LeO.none _
      | refine LeO.ite ?_ ?_
      | refine LeO.bind ?_ (fun _ => ?_)
    · intro y0 y1 y2 y3
      unfold culletlaw01_RingOrders.j1
      repeat' first
      | (with_reducible exact ih0 _ _ _)
      | (with_reducible exact ih1 _ _ _ _)
      | (with_reducible exact ih2 _ _ _ _ _)
      | (with_reducible exact ih3 _ _ _ _ _ _)
      | (with_reducible exact ih4 _ _ _ _ _ _)
      | (with_reducible exact ih5 _ _ _ _)
      | (with_reducible exact culletlaw01_high.mono _ _)
      | (with_reducible exact ring_Gcd.mono _ _ _)
      | (with_reducible exact ring_Irreducible.mono _ _)
      | (with_reducible exact ring_Order.mono _ _ _)
      | (with_reducible exact ring_PowMod.mono _ _ _ _)
      | (with_reducible exact ring_Primitive.mono _ _)
      | (with_reducible exact LeO.refl _)
      | (with_reducible exact LeO.none _)
      | (with_reducible refine LeO.ite ?_ ?_)
      | (with_reducible refine LeO.bind ?_ (fun _ => ?_))
      | exact ih0 _ _ _
      | exact ih1 _ _ _ _
      | exact ih2 _ _ _ _ _
      | exact ih3 _ _ _ _ _ _
      | exact ih4 _ _ _ _ _ _
      | exact ih5 _ _ _ _
      | exact culletlaw01_high.mono _ _
      | exact ring_Gcd.mono _ _ _
      | exact ring_Irreducible.mono _ _
      | exact ring_Order.mono _ _ _
      | exact ring_PowMod.mono _ _ _ _
      | exact ring_Primitive.mono _ _
      | exact LeO.none _
      | refine LeO.ite ?_ ?_
      | refine LeO.bind ?_ (fun _ => ?_)
    · intro y0 y1 y2 y3 y4
      unfold culletlaw01_RingOrders.j2
      repeat' first
      | (with_reducible exact ih0 _ _ _)
      | (with_reducible exact ih1 _ _ _ _)
      | (with_reducible exact ih2 _ _ _ _ _)
      | (with_reducible exact ih3 _ _ _ _ _ _)
      | (with_reducible exact ih4 _ _ _ _ _ _)
      | (with_reducible exact ih5 _ _ _ _)
      | (with_reducible exact culletlaw01_high.mono _ _)
      | (with_reducible exact ring_Gcd.mono _ _ _)
      | (with_reducible exact ring_Irreducible.mono _ _)
      | (with_reducible exact ring_Order.mono _ _ _)
      | (with_reducible exact ring_PowMod.mono _ _ _ _)
      | (with_reducible exact ring_Primitive.mono _ _)
      | (with_reducible exact LeO.refl _)
      | (with_reducible exact LeO.none _)
      | (with_reducible refine LeO.ite ?_ ?_)
      | (with_reducible refine LeO.bind ?_ (fun _ => ?_))
      | exact ih0 _ _ _
      | exact ih1 _ _ _ _
      | exact ih2 _ _ _ _ _
      | exact ih3 _ _ _ _ _ _
      | exact ih4 _ _ _ _ _ _
      | exact ih5 _ _ _ _
      | exact culletlaw01_high.mono _ _
      | exact ring_Gcd.mono _ _ _
      | exact ring_Irreducible.mono _ _
      | exact ring_Order.mono _ _ _
      | exact ring_PowMod.mono _ _ _ _
      | exact ring_Primitive.mono _ _
      | exact LeO.none _
      | refine LeO.ite ?_ ?_
      | refine LeO.bind ?_ (fun _ => ?_)
    · intro y0 y1 y2 y3 y4 y5
      unfold culletlaw01_RingOrders.l0
      repeat' first
      | (with_reducible exact ih0 _ _ _)
      | (with_reducible exact ih1 _ _ _ _)
      | (with_reducible exact ih2 _ _ _ _ _)
      | (with_reducible exact ih3 _ _ _ _ _ _)
      | (with_reducible exact ih4 _ _ _ _ _ _)
      | (with_reducible exact ih5 _ _ _ _)
      | (with_reducible exact culletlaw01_high.mono _ _)
      | (with_reducible exact ring_Gcd.mono _ _ _)
      | (with_reducible exact ring_Irreducible.mono _ _)
      | (with_reducible exact ring_Order.mono _ _ _)
      | (with_reducible exact ring_PowMod.mono _ _ _ _)
      | (with_reducible exact ring_Primitive.mono _ _)
      | (with_reducible exact LeO.refl _)
      | (with_reducible exact LeO.none _)
      | (with_reducible refine LeO.ite ?_ ?_)
      | (with_reducible refine LeO.bind ?_ (fun _ => ?_))
      | exact ih0 _ _ _
      | exact ih1 _ _ _ _
      | exact ih2 _ _ _ _ _
      | exact ih3 _ _ _ _ _ _
      | exact ih4 _ _ _ _ _ _
      | exact ih5 _ _ _ _
      | exact culletlaw01_high.mono _ _
      | exact ring_Gcd.mono _ _ _
      | exact ring_Irreducible.mono _ _
      | exact ring_Order.mono _ _ _
      | exact ring_PowMod.mono _ _ _ _
      | exact ring_Primitive.mono _ _
      | exact LeO.none _
      | refine LeO.ite ?_ ?_
      | refine LeO.bind ?_ (fun _ => ?_)
    · intro y0 y1 y2 y3 y4 y5
      unfold culletlaw01_RingOrders.l1
      repeat' first
      | (with_reducible exact ih0 _ _ _)
      | (with_reducible exact ih1 _ _ _ _)
      | (with_reducible exact ih2 _ _ _ _ _)
      | (with_reducible exact ih3 _ _ _ _ _ _)
      | (with_reducible exact ih4 _ _ _ _ _ _)
      | (with_reducible exact ih5 _ _ _ _)
      | (with_reducible exact culletlaw01_high.mono _ _)
      | (with_reducible exact ring_Gcd.mono _ _ _)
      | (with_reducible exact ring_Irreducible.mono _ _)
      | (with_reducible exact ring_Order.mono _ _ _)
      | (with_reducible exact ring_PowMod.mono _ _ _ _)
      | (with_reducible exact ring_Primitive.mono _ _)
      | (with_reducible exact LeO.refl _)
      | (with_reducible exact LeO.none _)
      | (with_reducible refine LeO.ite ?_ ?_)
      | (with_reducible refine LeO.bind ?_ (fun _ => ?_))
      | exact ih0 _ _ _
      | exact ih1 _ _ _ _
      | exact ih2 _ _ _ _ _
      | exact ih3 _ _ _ _ _ _
      | exact ih4 _ _ _ _ _ _
      | exact ih5 _ _ _ _
      | exact culletlaw01_high.mono _ _
      | exact ring_Gcd.mono _ _ _
      | exact ring_Irreducible.mono _ _
      | exact ring_Order.mono _ _ _
      | exact ring_PowMod.mono _ _ _ _
      | exact ring_Primitive.mono _ _
      | exact LeO.none _
      | refine LeO.ite ?_ ?_
      | refine LeO.bind ?_ (fun _ => ?_)
    · intro y0 y1 y2 y3
      unfold culletlaw01_RingOrders.j5
      repeat' first
      | (with_reducible exact ih0 _ _ _)
      | (with_reducible exact ih1 _ _ _ _)
      | (with_reducible exact ih2 _ _ _ _ _)
      | (with_reducible exact ih3 _ _ _ _ _ _)
      | (with_reducible exact ih4 _ _ _ _ _ _)
      | (with_reducible exact ih5 _ _ _ _)
      | (with_reducible exact culletlaw01_high.mono _ _)
      | (with_reducible exact ring_Gcd.mono _ _ _)
      | (with_reducible exact ring_Irreducible.mono _ _)
      | (with_reducible exact ring_Order.mono _ _ _)
      | (with_reducible exact ring_PowMod.mono _ _ _ _)
      | (with_reducible exact ring_Primitive.mono _ _)
      | (with_reducible exact LeO.refl _)
      | (with_reducible exact LeO.none _)
      | (with_reducible refine LeO.ite ?_ ?_)
      | (with_reducible refine LeO.bind ?_ (fun _ => ?_))
      | exact ih0 _ _ _
      | exact ih1 _ _ _ _
      | exact ih2 _ _ _ _ _
      | exact ih3 _ _ _ _ _ _
      | exact ih4 _ _ _ _ _ _
      | exact ih5 _ _ _ _
      | exact culletlaw01_high.mono _ _
      | exact ring_Gcd.mono _ _ _
      | exact ring_Irreducible.mono _ _
      | exact ring_Order.mono _ _ _
      | exact ring_PowMod.mono _ _ _ _
      | exact ring_Primitive.mono _ _
      | exact LeO.none _
      | refine LeO.ite ?_ ?_
      | refine LeO.bind ?_ (fun _ => ?_)
theorem culletlaw01_RingOrders.mono : ∀ a0 a1 k, LeO (culletlaw01_RingOrders.f k a0 a1) (culletlaw01_RingOrders.f (k + 1) a0 a1) := by
  intro a0 a1 k
  obtain ⟨ih0, ih1, ih2, ih3, ih4, ih5⟩ := culletlaw01_RingOrders.mono_l k
  unfold culletlaw01_RingOrders.f
  repeat' first
      | (with_reducible exact ih0 _ _ _)
      | (with_reducible exact ih1 _ _ _ _)
      | (with_reducible exact ih2 _ _ _ _ _)
      | (with_reducible exact ih3 _ _ _ _ _ _)
      | (with_reducible exact ih4 _ _ _ _ _ _)
      | (with_reducible exact ih5 _ _ _ _)
      | (with_reducible exact culletlaw01_high.mono _ _)
      | (with_reducible exact ring_Gcd.mono _ _ _)
      | (with_reducible exact ring_Irreducible.mono _ _)
      | (with_reducible exact ring_Order.mono _ _ _)
      | (with_reducible exact ring_PowMod.mono _ _ _ _)
      | (with_reducible exact ring_Primitive.mono _ _)
      | (with_reducible exact LeO.refl _)
      | (with_reducible exact LeO.none _)
      | (with_reducible refine LeO.ite ?_ ?_)
      | (with_reducible refine LeO.bind ?_ (fun _ => ?_))
      | exact ih0 _ _ _
      | exact ih1 _ _ _ _
      | exact ih2 _ _ _ _ _
      | exact ih3 _ _ _ _ _ _
      | exact ih4 _ _ _ _ _ _
      | exact ih5 _ _ _ _
      | exact culletlaw01_high.mono _ _
      | exact ring_Gcd.mono _ _ _
      | exact ring_Irreducible.mono _ _
      | exact ring_Order.mono _ _ _
      | exact ring_PowMod.mono _ _ _ _
      | exact ring_Primitive.mono _ _
      | exact LeO.none _
      | refine LeO.ite ?_ ?_
      | refine LeO.bind ?_ (fun _ => ?_)
set_option maxHeartbeats 8000000 in
set_option maxRecDepth 100000 in
theorem culletlaw01_RingOrders.calls (k : Nat) (a0 : Int) (a1 : Int) (r : Bool) (w : World) (h : culletlaw01_RingOrders.f k a0 a1 = some r) :
    Calls Try.prog 11 #[.int .u64 a0, .int .u64 a1] w fun e w' => e = .returned (.bool r) ∧ Drawn0 w w' := by
  have H : ((ring_Order.f k 2 285).bind fun bt249 => (if bt249.1 = 255 then (culletlaw01_RingOrders.j0 k a0 a1 (bt249.2 != 0)) else (culletlaw01_RingOrders.j0 k a0 a1 true))) = some r := h
  clear h
  replace H := Option.bind_eq_some_iff.mp H
  obtain ⟨⟨t249, t250⟩, A30, H⟩ := H
  replace H : (if t249 = 255 then (culletlaw01_RingOrders.j0 k a0 a1 (t250 != 0)) else (culletlaw01_RingOrders.j0 k a0 a1 true)) = some r := H
  have A3 := Aside0.mk A30
  clear A30
  have HC4 := Aside0.mk H
  clear H
  go_enter Try.func11, Try.ntmps11
  go_upto_region 2 with (first | ((with_reducible refine gate_callee (f := 21) rfl ?_); refine goesL_ (some 22) rfl rfl Try.func21 (by kernel_rfl) rfl #[.int .u64 2, .int .u64 285] rfl (by (try simp only [List.map_toArray, List.map_cons, List.map_nil]); first | done | rfl | (simp only [List.length_drop, List.length_take]; rfl)) ?_; (with_reducible refine (ring_Order.calls k 2 285 t249 t250 _ A3.out).mono ?_); rintro e w' ⟨rfl, ⟨nd, rfl⟩⟩; refine ⟨_, rfl, ?_⟩))
  (try simp only [Act.put, List.setIfInBounds_toArray, List.set_cons_zero, List.set_cons_succ])
  go_cut [30] (fun v30 wc => ∃ (kq : Nat) (x30_3 : Bool), v30 = .bool x30_3 ∧ Aside0 (culletlaw01_RingOrders.j0 kq a0 a1 x30_3 = some r) ∧ Aside0 (kq ≤ k) ∧ Drawn0 w wc)
  case first =>
    have H := HC4.out
    clear HC4
    by_cases c5 : t249 = 255
    · rw [if_pos c5] at H
      have c5b0 : (t249 == 255) = true := beq_iff_eq.mpr c5
      have c5b1 : (t249 != 255) = false := bne_eq_false_iff_eq.mpr c5
      clear c5
      (first | rw [c5b0] | (simp only [i64_w, i32_w]; rw [c5b0]) | skip)
      have H' := Aside0.mk H
      clear H
      go_wp2
      go_meet
      case rel => exact ⟨_, ((t250 != 0)), (by first | rfl | (simp; done) | (simp [*]; done)), H', ⟨by first | omega | exact Nat.le_refl _⟩, by repeat (first | exact Drawn0.refl _ | apply Drawn0.step)⟩
    · rw [if_neg c5] at H
      have c5b0 : (t249 == 255) = false := beq_eq_false_iff_ne.mpr c5
      have c5b1 : (t249 != 255) = true := bne_iff_ne.mpr c5
      (first | rw [c5b0] | (simp only [i64_w, i32_w]; rw [c5b0]) | skip)
      have H' := Aside0.mk H
      clear H
      go_wp2
      go_meet
      case rel => exact ⟨_, (true), (by first | rfl | (simp; done) | (simp [*]; done)), H', ⟨by first | omega | exact Nat.le_refl _⟩, by repeat (first | exact Drawn0.refl _ | apply Drawn0.step)⟩
  case rest =>
    clear HC4
    try clear c1
    try clear c2
    try clear p2
    try clear c5
    try clear c5b0
    try clear c5b1
    obtain ⟨kq, x30_3, rfl, HA, HJ3, ⟨mc3, rfl⟩⟩ := hcut
    cases kq with
    | zero => exact absurd HA.out (by simp [culletlaw01_RingOrders.j0])
    | succ kj3 =>
      have H := HA.out
      clear HA
      simp only [culletlaw01_RingOrders.j0] at H
      by_cases c6 : x30_3 = true
      · subst c6
        have H1 : (some false) = some r := by rw [if_pos rfl] at H; exact H
        clear H
        have H := H1
        clear H1
        obtain rfl := Option.some.inj H
        go_wp2
        go_ret
        exact ⟨by first | rfl | (simp; done) | (simp [*]; done), by repeat (first | exact Drawn0.refl _ | apply Drawn0.step)⟩
      · replace c6 := Bool.eq_false_iff.mpr c6
        subst c6
        have H1 : ((culletlaw01_high.f kj3 a1).bind fun t251 => (if t251 < 1 then (culletlaw01_RingOrders.j1 kj3 a0 a1 t251 true) else (culletlaw01_RingOrders.j1 kj3 a0 a1 t251 (decide (t251 > 16))))) = some r := by rw [if_neg (show ¬ (false = true) by decide)] at H; exact H
        clear H
        have H := H1
        clear H1
        replace H := Option.bind_eq_some_iff.mp H
        obtain ⟨t251, A70, H⟩ := H
        replace H : (if t251 < 1 then (culletlaw01_RingOrders.j1 kj3 a0 a1 t251 true) else (culletlaw01_RingOrders.j1 kj3 a0 a1 t251 (decide (t251 > 16)))) = some r := H
        have A7 := Aside0.mk A70
        clear A70
        have HC8 := Aside0.mk H
        clear H
        go_upto_region 5 with (first | ((with_reducible refine gate_callee (f := 16) rfl ?_); refine goesL_ (some 32) rfl rfl Try.func16 (by kernel_rfl) rfl #[.int .u64 a1] rfl (by (try simp only [List.map_toArray, List.map_cons, List.map_nil]); first | done | rfl | (simp only [List.length_drop, List.length_take]; rfl)) ?_; (with_reducible refine (culletlaw01_high.calls kj3 a1 t251 _ A7.out).mono ?_); rintro e w' ⟨rfl, ⟨nd, rfl⟩⟩; refine ⟨_, rfl, ?_⟩))
        (try simp only [Act.put, List.setIfInBounds_toArray, List.set_cons_zero, List.set_cons_succ])
        go_cut [38] (fun v38 wc => ∃ (kq : Nat) (x38_7 : Bool), v38 = .bool x38_7 ∧ Aside0 (culletlaw01_RingOrders.j1 kq a0 a1 t251 x38_7 = some r) ∧ Aside0 (kq ≤ kj3) ∧ Drawn0 w wc)
        case first =>
          have H := HC8.out
          clear HC8
          by_cases c9 : t251 < 1
          · rw [if_pos c9] at H
            have c9b0 : decide (t251 < 1) = true := decide_eq_true c9
            clear c9
            (first | rw [c9b0] | (simp only [i64_w, i32_w]; rw [c9b0]) | skip)
            have H' := Aside0.mk H
            clear H
            go_wp2
            go_meet
            case rel => exact ⟨_, (true), (by first | rfl | (simp; done) | (simp [*]; done)), H', ⟨by have := HJ3.out; first | omega | exact Nat.le_refl _⟩, by repeat (first | exact Drawn0.refl _ | apply Drawn0.step)⟩
          · rw [if_neg c9] at H
            have c9b0 : decide (t251 < 1) = false := decide_eq_false c9
            clear c9
            (first | rw [c9b0] | (simp only [i64_w, i32_w]; rw [c9b0]) | skip)
            have H' := Aside0.mk H
            clear H
            go_wp2
            go_meet
            case rel => exact ⟨_, (decide (t251 > 16)), (by first | rfl | (simp; done) | (simp [*]; done)), H', ⟨by have := HJ3.out; first | omega | exact Nat.le_refl _⟩, by repeat (first | exact Drawn0.refl _ | apply Drawn0.step)⟩
        case rest =>
          clear HC8
          try clear c1
          try clear c2
          try clear p2
          try clear c3
          try clear c5
          try clear c5b0
          try clear c5b1
          try clear c6
          try clear c9
          try clear c9b0
          try clear p2
          obtain ⟨kq, x38_7, rfl, HA, HJ7, ⟨mc7, rfl⟩⟩ := hcut
          cases kq with
          | zero => exact absurd HA.out (by simp [culletlaw01_RingOrders.j1])
          | succ kj7 =>
            have H := HA.out
            clear HA
            simp only [culletlaw01_RingOrders.j1] at H
            by_cases c10 : x38_7 = true
            · subst c10
              have H1 : ((ring_Order.f kj7 a0 a1).bind fun bt252 => ((ring_Primitive.f kj7 a1).bind fun bt254 => (if bt252.1 = 0 then (if bt254.1 = true then (some false) else (if bt252.2 = 11 then (some (bt254.2 == 11)) else (some false))) else (some false)))) = some r := by rw [if_pos rfl] at H; exact H
              clear H
              have H := H1
              clear H1
              replace H := Option.bind_eq_some_iff.mp H
              obtain ⟨⟨t252, t253⟩, A110, H⟩ := H
              replace H : ((ring_Primitive.f kj7 a1).bind fun bt254 => (if t252 = 0 then (if bt254.1 = true then (some false) else (if t253 = 11 then (some (bt254.2 == 11)) else (some false))) else (some false))) = some r := H
              have A11 := Aside0.mk A110
              clear A110
              replace H := Option.bind_eq_some_iff.mp H
              obtain ⟨⟨t254, t255⟩, A120, H⟩ := H
              replace H : (if t252 = 0 then (if t254 = true then (some false) else (if t253 = 11 then (some (t255 == 11)) else (some false))) else (some false)) = some r := H
              have A12 := Aside0.mk A120
              clear A120
              by_cases c13 : t252 = 0
              · rw [if_pos c13] at H
                have c13b0 : (t252 == 0) = true := beq_iff_eq.mpr c13
                have c13b1 : (t252 != 0) = false := bne_eq_false_iff_eq.mpr c13
                clear c13
                by_cases c14 : t254 = true
                · subst c14
                  have H1 : (some false) = some r := by rw [if_pos rfl] at H; exact H
                  clear H
                  have H := H1
                  clear H1
                  obtain rfl := Option.some.inj H
                  go_wp2_with (first | ((with_reducible refine gate_callee (f := 21) rfl ?_); refine goesL_ (some 42) rfl rfl Try.func21 (by kernel_rfl) rfl #[.int .u64 a0, .int .u64 a1] rfl (by (try simp only [List.map_toArray, List.map_cons, List.map_nil]); first | done | rfl | (simp only [List.length_drop, List.length_take]; rfl)) ?_; (with_reducible refine (ring_Order.calls kj7 a0 a1 t252 t253 _ A11.out).mono ?_); rintro e w' ⟨rfl, ⟨nd, rfl⟩⟩; refine ⟨_, rfl, ?_⟩) | ((with_reducible refine gate_callee (f := 20) rfl ?_); refine goesL_ (some 47) rfl rfl Try.func20 (by kernel_rfl) rfl #[.int .u64 a1] rfl (by (try simp only [List.map_toArray, List.map_cons, List.map_nil]); first | done | rfl | (simp only [List.length_drop, List.length_take]; rfl)) ?_; (with_reducible refine (ring_Primitive.calls kj7 a1 true t255 _ A12.out).mono ?_); rintro e w' ⟨rfl, ⟨nd, rfl⟩⟩; refine ⟨_, rfl, ?_⟩))
                  go_ret
                  exact ⟨by first | rfl | (simp; done) | (simp [*]; done), by repeat (first | exact Drawn0.refl _ | apply Drawn0.step)⟩
                · replace c14 := Bool.eq_false_iff.mpr c14
                  subst c14
                  have H1 : (if t253 = 11 then (some (t255 == 11)) else (some false)) = some r := by rw [if_neg (show ¬ (false = true) by decide)] at H; exact H
                  clear H
                  have H := H1
                  clear H1
                  by_cases c15 : t253 = 11
                  · rw [if_pos c15] at H
                    have c15b0 : (t253 == 11) = true := beq_iff_eq.mpr c15
                    have c15b1 : (t253 != 11) = false := bne_eq_false_iff_eq.mpr c15
                    clear c15
                    obtain rfl := Option.some.inj H
                    go_wp2_with (first | ((with_reducible refine gate_callee (f := 21) rfl ?_); refine goesL_ (some 42) rfl rfl Try.func21 (by kernel_rfl) rfl #[.int .u64 a0, .int .u64 a1] rfl (by (try simp only [List.map_toArray, List.map_cons, List.map_nil]); first | done | rfl | (simp only [List.length_drop, List.length_take]; rfl)) ?_; (with_reducible refine (ring_Order.calls kj7 a0 a1 t252 t253 _ A11.out).mono ?_); rintro e w' ⟨rfl, ⟨nd, rfl⟩⟩; refine ⟨_, rfl, ?_⟩) | ((with_reducible refine gate_callee (f := 20) rfl ?_); refine goesL_ (some 47) rfl rfl Try.func20 (by kernel_rfl) rfl #[.int .u64 a1] rfl (by (try simp only [List.map_toArray, List.map_cons, List.map_nil]); first | done | rfl | (simp only [List.length_drop, List.length_take]; rfl)) ?_; (with_reducible refine (ring_Primitive.calls kj7 a1 false t255 _ A12.out).mono ?_); rintro e w' ⟨rfl, ⟨nd, rfl⟩⟩; refine ⟨_, rfl, ?_⟩))
                    go_ret
                    exact ⟨by first | rfl | (simp; done) | (simp [*]; done), by repeat (first | exact Drawn0.refl _ | apply Drawn0.step)⟩
                  · rw [if_neg c15] at H
                    have c15b0 : (t253 == 11) = false := beq_eq_false_iff_ne.mpr c15
                    have c15b1 : (t253 != 11) = true := bne_iff_ne.mpr c15
                    obtain rfl := Option.some.inj H
                    go_wp2_with (first | ((with_reducible refine gate_callee (f := 21) rfl ?_); refine goesL_ (some 42) rfl rfl Try.func21 (by kernel_rfl) rfl #[.int .u64 a0, .int .u64 a1] rfl (by (try simp only [List.map_toArray, List.map_cons, List.map_nil]); first | done | rfl | (simp only [List.length_drop, List.length_take]; rfl)) ?_; (with_reducible refine (ring_Order.calls kj7 a0 a1 t252 t253 _ A11.out).mono ?_); rintro e w' ⟨rfl, ⟨nd, rfl⟩⟩; refine ⟨_, rfl, ?_⟩) | ((with_reducible refine gate_callee (f := 20) rfl ?_); refine goesL_ (some 47) rfl rfl Try.func20 (by kernel_rfl) rfl #[.int .u64 a1] rfl (by (try simp only [List.map_toArray, List.map_cons, List.map_nil]); first | done | rfl | (simp only [List.length_drop, List.length_take]; rfl)) ?_; (with_reducible refine (ring_Primitive.calls kj7 a1 false t255 _ A12.out).mono ?_); rintro e w' ⟨rfl, ⟨nd, rfl⟩⟩; refine ⟨_, rfl, ?_⟩))
                    go_ret
                    exact ⟨by first | rfl | (simp; done) | (simp [*]; done), by repeat (first | exact Drawn0.refl _ | apply Drawn0.step)⟩
              · rw [if_neg c13] at H
                have c13b0 : (t252 == 0) = false := beq_eq_false_iff_ne.mpr c13
                have c13b1 : (t252 != 0) = true := bne_iff_ne.mpr c13
                obtain rfl := Option.some.inj H
                go_wp2_with (first | ((with_reducible refine gate_callee (f := 21) rfl ?_); refine goesL_ (some 42) rfl rfl Try.func21 (by kernel_rfl) rfl #[.int .u64 a0, .int .u64 a1] rfl (by (try simp only [List.map_toArray, List.map_cons, List.map_nil]); first | done | rfl | (simp only [List.length_drop, List.length_take]; rfl)) ?_; (with_reducible refine (ring_Order.calls kj7 a0 a1 t252 t253 _ A11.out).mono ?_); rintro e w' ⟨rfl, ⟨nd, rfl⟩⟩; refine ⟨_, rfl, ?_⟩) | ((with_reducible refine gate_callee (f := 20) rfl ?_); refine goesL_ (some 47) rfl rfl Try.func20 (by kernel_rfl) rfl #[.int .u64 a1] rfl (by (try simp only [List.map_toArray, List.map_cons, List.map_nil]); first | done | rfl | (simp only [List.length_drop, List.length_take]; rfl)) ?_; (with_reducible refine (ring_Primitive.calls kj7 a1 t254 t255 _ A12.out).mono ?_); rintro e w' ⟨rfl, ⟨nd, rfl⟩⟩; refine ⟨_, rfl, ?_⟩))
                go_ret
                exact ⟨by first | rfl | (simp; done) | (simp [*]; done), by repeat (first | exact Drawn0.refl _ | apply Drawn0.step)⟩
            · replace c10 := Bool.eq_false_iff.mpr c10
              subst c10
              have H1 : ((ring_Order.f kj7 a0 a1).bind fun bt256 => ((ring_Gcd.f kj7 a0 a1).bind fun t258 => (if t258 = 1 then (if bt256.2 = 0 then (if bt256.1 < 1 then (culletlaw01_RingOrders.j2 kj7 a0 a1 bt256.1 t251 true) else (culletlaw01_RingOrders.j2 kj7 a0 a1 bt256.1 t251 (decide (bt256.1 ≥ 65536)))) else (culletlaw01_RingOrders.j2 kj7 a0 a1 bt256.1 t251 true)) else (if bt256.1 = 0 then (some (bt256.2 == 12)) else (some false))))) = some r := by rw [if_neg (show ¬ (false = true) by decide)] at H; exact H
              clear H
              have H := H1
              clear H1
              replace H := Option.bind_eq_some_iff.mp H
              obtain ⟨⟨t256, t257⟩, A160, H⟩ := H
              replace H : ((ring_Gcd.f kj7 a0 a1).bind fun t258 => (if t258 = 1 then (if t257 = 0 then (if t256 < 1 then (culletlaw01_RingOrders.j2 kj7 a0 a1 t256 t251 true) else (culletlaw01_RingOrders.j2 kj7 a0 a1 t256 t251 (decide (t256 ≥ 65536)))) else (culletlaw01_RingOrders.j2 kj7 a0 a1 t256 t251 true)) else (if t256 = 0 then (some (t257 == 12)) else (some false)))) = some r := H
              have A16 := Aside0.mk A160
              clear A160
              replace H := Option.bind_eq_some_iff.mp H
              obtain ⟨t258, A170, H⟩ := H
              replace H : (if t258 = 1 then (if t257 = 0 then (if t256 < 1 then (culletlaw01_RingOrders.j2 kj7 a0 a1 t256 t251 true) else (culletlaw01_RingOrders.j2 kj7 a0 a1 t256 t251 (decide (t256 ≥ 65536)))) else (culletlaw01_RingOrders.j2 kj7 a0 a1 t256 t251 true)) else (if t256 = 0 then (some (t257 == 12)) else (some false))) = some r := H
              have A17 := Aside0.mk A170
              clear A170
              by_cases c18 : t258 = 1
              · rw [if_pos c18] at H
                have c18b0 : (t258 == 1) = true := beq_iff_eq.mpr c18
                have c18b1 : (t258 != 1) = false := bne_eq_false_iff_eq.mpr c18
                clear c18
                have HC19 := Aside0.mk H
                clear H
                go_upto_region 12 with (first | ((with_reducible refine gate_callee (f := 21) rfl ?_); refine goesL_ (some 67) rfl rfl Try.func21 (by kernel_rfl) rfl #[.int .u64 a0, .int .u64 a1] rfl (by (try simp only [List.map_toArray, List.map_cons, List.map_nil]); first | done | rfl | (simp only [List.length_drop, List.length_take]; rfl)) ?_; (with_reducible refine (ring_Order.calls kj7 a0 a1 t256 t257 _ A16.out).mono ?_); rintro e w' ⟨rfl, ⟨nd, rfl⟩⟩; refine ⟨_, rfl, ?_⟩) | ((with_reducible refine gate_callee (f := 12) rfl ?_); refine goesL_ (some 72) rfl rfl Try.func12 (by kernel_rfl) rfl #[.int .u64 a0, .int .u64 a1] rfl (by (try simp only [List.map_toArray, List.map_cons, List.map_nil]); first | done | rfl | (simp only [List.length_drop, List.length_take]; rfl)) ?_; (with_reducible refine (ring_Gcd.calls kj7 a0 a1 t258 _ A17.out).mono ?_); rintro e w' ⟨rfl, ⟨nd, rfl⟩⟩; refine ⟨_, rfl, ?_⟩))
                (try simp only [Act.put, List.setIfInBounds_toArray, List.set_cons_zero, List.set_cons_succ])
                go_cut [89] (fun v89 wc => ∃ (kq : Nat) (x89_18 : Bool), v89 = .bool x89_18 ∧ Aside0 (culletlaw01_RingOrders.j2 kq a0 a1 t256 t251 x89_18 = some r) ∧ Aside0 (kq ≤ kj7) ∧ Drawn0 w wc)
                case first =>
                  have H := HC19.out
                  clear HC19
                  by_cases c20 : t257 = 0
                  · rw [if_pos c20] at H
                    have c20b0 : (t257 == 0) = true := beq_iff_eq.mpr c20
                    have c20b1 : (t257 != 0) = false := bne_eq_false_iff_eq.mpr c20
                    clear c20
                    (first | rw [c20b0] | (simp only [i64_w, i32_w]; rw [c20b0]) | skip)
                    by_cases c21 : t256 < 1
                    · rw [if_pos c21] at H
                      have c21b0 : decide (t256 < 1) = true := decide_eq_true c21
                      clear c21
                      have H' := Aside0.mk H
                      clear H
                      go_wp2
                      go_meet
                      case rel => exact ⟨_, (true), (by first | rfl | (simp; done) | (simp [*]; done)), H', ⟨by have := HJ3.out; have := HJ7.out; first | omega | exact Nat.le_refl _⟩, by repeat (first | exact Drawn0.refl _ | apply Drawn0.step)⟩
                    · rw [if_neg c21] at H
                      have c21b0 : decide (t256 < 1) = false := decide_eq_false c21
                      clear c21
                      have H' := Aside0.mk H
                      clear H
                      go_wp2
                      go_meet
                      case rel => exact ⟨_, (decide (t256 ≥ 65536)), (by first | rfl | (simp; done) | (simp [*]; done)), H', ⟨by have := HJ3.out; have := HJ7.out; first | omega | exact Nat.le_refl _⟩, by repeat (first | exact Drawn0.refl _ | apply Drawn0.step)⟩
                  · rw [if_neg c20] at H
                    have c20b0 : (t257 == 0) = false := beq_eq_false_iff_ne.mpr c20
                    have c20b1 : (t257 != 0) = true := bne_iff_ne.mpr c20
                    (first | rw [c20b0] | (simp only [i64_w, i32_w]; rw [c20b0]) | skip)
                    have H' := Aside0.mk H
                    clear H
                    go_wp2
                    go_meet
                    case rel => exact ⟨_, (true), (by first | rfl | (simp; done) | (simp [*]; done)), H', ⟨by have := HJ3.out; have := HJ7.out; first | omega | exact Nat.le_refl _⟩, by repeat (first | exact Drawn0.refl _ | apply Drawn0.step)⟩
                case rest =>
                  clear HC19
                  try clear c1
                  try clear c2
                  try clear p2
                  try clear c3
                  try clear c5
                  try clear c5b0
                  try clear c5b1
                  try clear c6
                  try clear c7
                  try clear c9
                  try clear c9b0
                  try clear c10
                  try clear c11
                  try clear c12
                  try clear c13
                  try clear c13b0
                  try clear c13b1
                  try clear c14
                  try clear c15
                  try clear c15b0
                  try clear c15b1
                  try clear c16
                  try clear c18
                  try clear c18b0
                  try clear c18b1
                  try clear c20
                  try clear c20b0
                  try clear c20b1
                  try clear c21
                  try clear c21b0
                  try clear p2
                  obtain ⟨kq, x89_18, rfl, HA, HJ18, ⟨mc18, rfl⟩⟩ := hcut
                  cases kq with
                  | zero => exact absurd HA.out (by simp [culletlaw01_RingOrders.j2])
                  | succ kj18 =>
                    have H := HA.out
                    clear HA
                    simp only [culletlaw01_RingOrders.j2] at H
                    by_cases c22 : x89_18 = true
                    · subst c22
                      have H1 : (some false) = some r := by rw [if_pos rfl] at H; exact H
                      clear H
                      have H := H1
                      clear H1
                      obtain rfl := Option.some.inj H
                      go_wp2
                      go_ret
                      exact ⟨by first | rfl | (simp; done) | (simp [*]; done), by repeat (first | exact Drawn0.refl _ | apply Drawn0.step)⟩
                    · replace c22 := Bool.eq_false_iff.mpr c22
                      subst c22
                      have H1 : ((ring_PowMod.f kj18 a0 (IntKind.u64.wrap (t256)) a1).bind fun bt259 => (if bt259.1 = 1 then (culletlaw01_RingOrders.l0 kj18 a0 a1 t256 t251 t256 2) else (some false))) = some r := by rw [if_neg (show ¬ (false = true) by decide)] at H; exact H
                      clear H
                      have H := H1
                      clear H1
                      replace H := Option.bind_eq_some_iff.mp H
                      obtain ⟨⟨t259, t260⟩, A230, H⟩ := H
                      replace H : (if t259 = 1 then (culletlaw01_RingOrders.l0 kj18 a0 a1 t256 t251 t256 2) else (some false)) = some r := H
                      have A23 := Aside0.mk A230
                      clear A230
                      by_cases c24 : t259 = 1
                      · rw [if_pos c24] at H
                        have c24b0 : (t259 == 1) = true := beq_iff_eq.mpr c24
                        have c24b1 : (t259 != 1) = false := bne_eq_false_iff_eq.mpr c24
                        clear c24
                        have H' := Aside0.mk H
                        clear H
                        go_wp2_with (first | ((with_reducible refine gate_callee (f := 22) rfl ?_); refine goesL_ (some 95) rfl rfl Try.func22 (by kernel_rfl) rfl #[.int .u64 a0, .int .u64 (IntKind.u64.wrap (t256)), .int .u64 a1] rfl (by (try simp only [List.map_toArray, List.map_cons, List.map_nil]); first | done | rfl | (simp only [List.length_drop, List.length_take]; rfl)) ?_; (with_reducible refine (ring_PowMod.calls kj18 a0 (IntKind.u64.wrap (t256)) a1 t259 t260 _ A23.out).mono ?_); rintro e w' ⟨rfl, ⟨nd, rfl⟩⟩; refine ⟨_, rfl, ?_⟩))
                        go_loopg [12, 13] kj18 (fun kq v12 v13 w' => ∃ (x12_4 : Int) (x13_4 : Int), v12 = .int .i64 x12_4 ∧ v13 = .int .i64 x13_4 ∧ Aside0 (culletlaw01_RingOrders.l0 kq a0 a1 t256 t251 x12_4 x13_4 = some r) ∧ Aside0 (kq ≤ kj18) ∧ Drawn0 w w')
                        case atStart => exact ⟨(t256), (2), (by first | rfl | (simp; done) | (simp [*]; done)), (by first | rfl | (simp; done) | (simp [*]; done)), H', ⟨Nat.le_refl _⟩, by repeat (first | exact Drawn0.refl _ | apply Drawn0.step)⟩
                        case round =>
                          clear H'
                          try clear c1
                          try clear c2
                          try clear p2
                          try clear c3
                          try clear c5
                          try clear c5b0
                          try clear c5b1
                          try clear c6
                          try clear c7
                          try clear c9
                          try clear c9b0
                          try clear c10
                          try clear c11
                          try clear c12
                          try clear c13
                          try clear c13b0
                          try clear c13b1
                          try clear c14
                          try clear c15
                          try clear c15b0
                          try clear c15b1
                          try clear c16
                          try clear c18
                          try clear c18b0
                          try clear c18b1
                          try clear c20
                          try clear c20b0
                          try clear c20b1
                          try clear c21
                          try clear c21b0
                          try clear c22
                          try clear c24
                          try clear c24b0
                          try clear c24b1
                          try clear p2
                          obtain ⟨x12_4, x13_4, rfl, rfl, HA, HK4, ⟨m4, rfl⟩⟩ := hrel
                          cases gk with
                          | zero => exact absurd HA.out (by simp [culletlaw01_RingOrders.l0])
                          | succ k4 =>
                            have H := HA.out
                            clear HA
                            simp only [culletlaw01_RingOrders.l0] at H
                            by_cases c25 : x13_4 ≤ x12_4
                            · rw [if_pos c25] at H
                              have c25b0 : decide (x13_4 ≤ x12_4) = true := decide_eq_true c25
                              clear c25
                              by_cases c26 : x13_4 = 0
                              · rw [if_pos c26] at H
                                exact absurd H (by simp)
                              · rw [if_neg c26] at H
                                have c26b0 : (x13_4 == 0) = false := beq_eq_false_iff_ne.mpr c26
                                have c26b1 : (x13_4 != 0) = true := bne_iff_ne.mpr c26
                                by_cases c27 : (Int.tmod x12_4 x13_4) = 0
                                · rw [if_pos c27] at H
                                  have c27b0 : ((Int.tmod x12_4 x13_4) == 0) = true := beq_iff_eq.mpr c27
                                  have c27b1 : ((Int.tmod x12_4 x13_4) != 0) = false := bne_eq_false_iff_eq.mpr c27
                                  clear c27
                                  have H' := Aside0.mk H
                                  clear H
                                  go_wp2
                                  go_loopg [12] k4 (fun kq v12 w' => ∃ (x12_5 : Int), v12 = .int .i64 x12_5 ∧ Aside0 (culletlaw01_RingOrders.l1 kq a0 a1 t256 t251 x12_5 x13_4 = some r) ∧ Aside0 (kq ≤ k4) ∧ Drawn0 w w')
                                  case atStart => exact ⟨(x12_4), (by first | rfl | (simp; done) | (simp [*]; done)), H', ⟨Nat.le_refl _⟩, by repeat (first | exact Drawn0.refl _ | apply Drawn0.step)⟩
                                  case round =>
                                    clear H'
                                    try clear c1
                                    try clear c2
                                    try clear p2
                                    try clear c3
                                    try clear c5
                                    try clear c5b0
                                    try clear c5b1
                                    try clear c6
                                    try clear c7
                                    try clear c9
                                    try clear c9b0
                                    try clear c10
                                    try clear c11
                                    try clear c12
                                    try clear c13
                                    try clear c13b0
                                    try clear c13b1
                                    try clear c14
                                    try clear c15
                                    try clear c15b0
                                    try clear c15b1
                                    try clear c16
                                    try clear c18
                                    try clear c18b0
                                    try clear c18b1
                                    try clear c20
                                    try clear c20b0
                                    try clear c20b1
                                    try clear c21
                                    try clear c21b0
                                    try clear c22
                                    try clear c24
                                    try clear c24b0
                                    try clear c24b1
                                    try clear c25
                                    try clear c25b0
                                    try clear c26
                                    try clear c26b0
                                    try clear c26b1
                                    try clear c27
                                    try clear c27b0
                                    try clear c27b1
                                    try clear p2
                                    obtain ⟨x12_5, rfl, HA, HK5, ⟨m5, rfl⟩⟩ := hrel
                                    cases gk with
                                    | zero => exact absurd HA.out (by simp [culletlaw01_RingOrders.l1])
                                    | succ k5 =>
                                      have H := HA.out
                                      clear HA
                                      simp only [culletlaw01_RingOrders.l1] at H
                                      by_cases c28 : x13_4 = 0
                                      · rw [if_pos c28] at H
                                        exact absurd H (by simp)
                                      · rw [if_neg c28] at H
                                        have c28b0 : (x13_4 == 0) = false := beq_eq_false_iff_ne.mpr c28
                                        have c28b1 : (x13_4 != 0) = true := bne_iff_ne.mpr c28
                                        by_cases c29 : (Int.tmod x12_5 x13_4) = 0
                                        · rw [if_pos c29] at H
                                          have c29b0 : ((Int.tmod x12_5 x13_4) == 0) = true := beq_iff_eq.mpr c29
                                          have c29b1 : ((Int.tmod x12_5 x13_4) != 0) = false := bne_eq_false_iff_eq.mpr c29
                                          clear c29
                                          have H' := Aside0.mk H
                                          clear H
                                          go_wp2
                                          go_roundg k5
                                          case measure => have := HJ3.out; have := HJ7.out; have := HJ18.out; have := HK4.out; have := HK5.out; omega
                                          case rel => exact ⟨(wrap64 (Int.tdiv x12_5 x13_4)), (by first | rfl | (simp; done) | (simp [*]; done)), H', ⟨by have := HJ3.out; have := HJ7.out; have := HJ18.out; have := HK4.out; have := HK5.out; omega⟩, by repeat (first | exact Drawn0.refl _ | apply Drawn0.step)⟩
                                        · rw [if_neg c29] at H
                                          have c29b0 : ((Int.tmod x12_5 x13_4) == 0) = false := beq_eq_false_iff_ne.mpr c29
                                          have c29b1 : ((Int.tmod x12_5 x13_4) != 0) = true := bne_iff_ne.mpr c29
                                          replace H := Option.bind_eq_some_iff.mp H
                                          obtain ⟨⟨t261, t262⟩, A300, H⟩ := H
                                          replace H : (if t261 = 1 then (some false) else (culletlaw01_RingOrders.l0 k5 a0 a1 t256 t251 x12_5 (wrap64 (x13_4 + 1)))) = some r := H
                                          have A30 := Aside0.mk A300
                                          clear A300
                                          by_cases c31 : t261 = 1
                                          · rw [if_pos c31] at H
                                            have c31b0 : (t261 == 1) = true := beq_iff_eq.mpr c31
                                            have c31b1 : (t261 != 1) = false := bne_eq_false_iff_eq.mpr c31
                                            clear c31
                                            obtain rfl := Option.some.inj H
                                            go_wp2_with (first | ((with_reducible refine gate_callee (f := 22) rfl ?_); refine goesL_ (some 124) rfl rfl Try.func22 (by kernel_rfl) rfl #[.int .u64 a0, .int .u64 (IntKind.u64.wrap (wrap64 (Int.tdiv t256 x13_4))), .int .u64 a1] rfl (by (try simp only [List.map_toArray, List.map_cons, List.map_nil]); first | done | rfl | (simp only [List.length_drop, List.length_take]; rfl)) ?_; (with_reducible refine (ring_PowMod.calls k5 a0 (IntKind.u64.wrap (wrap64 (Int.tdiv t256 x13_4))) a1 t261 t262 _ A30.out).mono ?_); rintro e w' ⟨rfl, ⟨nd, rfl⟩⟩; refine ⟨_, rfl, ?_⟩))
                                            go_ret
                                            exact ⟨by first | rfl | (simp; done) | (simp [*]; done), by repeat (first | exact Drawn0.refl _ | apply Drawn0.step)⟩
                                          · rw [if_neg c31] at H
                                            have c31b0 : (t261 == 1) = false := beq_eq_false_iff_ne.mpr c31
                                            have c31b1 : (t261 != 1) = true := bne_iff_ne.mpr c31
                                            have H' := Aside0.mk H
                                            clear H
                                            go_wp2_with (first | ((with_reducible refine gate_callee (f := 22) rfl ?_); refine goesL_ (some 124) rfl rfl Try.func22 (by kernel_rfl) rfl #[.int .u64 a0, .int .u64 (IntKind.u64.wrap (wrap64 (Int.tdiv t256 x13_4))), .int .u64 a1] rfl (by (try simp only [List.map_toArray, List.map_cons, List.map_nil]); first | done | rfl | (simp only [List.length_drop, List.length_take]; rfl)) ?_; (with_reducible refine (ring_PowMod.calls k5 a0 (IntKind.u64.wrap (wrap64 (Int.tdiv t256 x13_4))) a1 t261 t262 _ A30.out).mono ?_); rintro e w' ⟨rfl, ⟨nd, rfl⟩⟩; refine ⟨_, rfl, ?_⟩))
                                            go_roundg k5
                                            case measure => have := HJ3.out; have := HJ7.out; have := HJ18.out; have := HK4.out; have := HK5.out; omega
                                            case rel => exact ⟨(x12_5), (wrap64 (x13_4 + 1)), (by first | rfl | (simp; done) | (simp [*]; done)), (by first | rfl | (simp; done) | (simp [*]; done)), H', ⟨by have := HJ3.out; have := HJ7.out; have := HJ18.out; have := HK4.out; have := HK5.out; omega⟩, by repeat (first | exact Drawn0.refl _ | apply Drawn0.step)⟩
                                · rw [if_neg c27] at H
                                  have c27b0 : ((Int.tmod x12_4 x13_4) == 0) = false := beq_eq_false_iff_ne.mpr c27
                                  have c27b1 : ((Int.tmod x12_4 x13_4) != 0) = true := bne_iff_ne.mpr c27
                                  have H' := Aside0.mk H
                                  clear H
                                  go_wp2
                                  go_roundg k4
                                  case measure => have := HJ3.out; have := HJ7.out; have := HJ18.out; have := HK4.out; omega
                                  case rel => exact ⟨(x12_4), (wrap64 (x13_4 + 1)), (by first | rfl | (simp; done) | (simp [*]; done)), (by first | rfl | (simp; done) | (simp [*]; done)), H', ⟨by have := HJ3.out; have := HJ7.out; have := HJ18.out; have := HK4.out; omega⟩, by repeat (first | exact Drawn0.refl _ | apply Drawn0.step)⟩
                            · rw [if_neg c25] at H
                              have c25b0 : decide (x13_4 ≤ x12_4) = false := decide_eq_false c25
                              clear c25
                              obtain ⟨ji32, hji32⟩ : ∃ j_ : Int, (IntKind.u64.wrap (t251)) = j_ := ⟨_, rfl⟩
                              replace H : (if 0 ≤ (ji32) then ((ring_Irreducible.f k4 a1).bind fun bt263 => (if bt263.1 = true then (if t256 = 0 then (none) else (culletlaw01_RingOrders.j5 k4 a1 (wrap64 ((shl .i64 1 (ji32)) - 1)) bt263.1 ((Int.tmod (wrap64 ((shl .i64 1 (ji32)) - 1)) t256) != 0))) else (culletlaw01_RingOrders.j5 k4 a1 (wrap64 ((shl .i64 1 (ji32)) - 1)) bt263.1 false))) else (none)) = some r := by first | (rw [hji32] at H; exact H) | (simp only [hji32] at H ⊢; exact H)
                              by_cases c33 : 0 ≤ (ji32)
                              · rw [if_pos c33] at H
                                have c33b0 := eq_true c33
                                have c33b1 : decide (0 ≤ (ji32)) = true := decide_eq_true c33
                                clear c33
                                obtain ⟨ji34, hji34⟩ : ∃ j_ : Int, (shl .i64 1 (ji32)) = j_ := ⟨_, rfl⟩
                                replace H : ((ring_Irreducible.f k4 a1).bind fun bt263 => (if bt263.1 = true then (if t256 = 0 then (none) else (culletlaw01_RingOrders.j5 k4 a1 (wrap64 ((ji34) - 1)) bt263.1 ((Int.tmod (wrap64 ((ji34) - 1)) t256) != 0))) else (culletlaw01_RingOrders.j5 k4 a1 (wrap64 ((ji34) - 1)) bt263.1 false))) = some r := by first | (rw [hji34] at H; exact H) | (simp only [hji34] at H ⊢; exact H)
                                have hji34_ : (IntKind.i64.wrap (1 * 2 ^ min (ji32).toNat 64)) = ji34 := hji34
                                have hji34z : (ji32) ≤ 64 → (IntKind.i64.wrap (1 * 2 ^ (ji32).toNat)) = ji34 := shl_small hji34
                                have hji34u : (IntKind.i64.wrap (2 ^ min (ji32).toNat 64)) = ji34 := by have h_ := hji34_; rw [Int.one_mul] at h_; exact h_
                                have hji34v : (ji32) ≤ 64 → (IntKind.i64.wrap (2 ^ (ji32).toNat)) = ji34 := fun hle_ => by have h_ := hji34z hle_; rw [Int.one_mul] at h_; exact h_
                                have hji34y : (wrap64 (1 * 2 ^ min (ji32).toNat 64)) = ji34 := (i64_w _).symm.trans hji34_
                                have hji34x : (ji32) ≤ 64 → (wrap64 (1 * 2 ^ (ji32).toNat)) = ji34 := fun h_ => (i64_w _).symm.trans (hji34z h_)
                                replace H := Option.bind_eq_some_iff.mp H
                                obtain ⟨⟨t263, t264⟩, A350, H⟩ := H
                                replace H : (if t263 = true then (if t256 = 0 then (none) else (culletlaw01_RingOrders.j5 k4 a1 (wrap64 ((ji34) - 1)) t263 ((Int.tmod (wrap64 ((ji34) - 1)) t256) != 0))) else (culletlaw01_RingOrders.j5 k4 a1 (wrap64 ((ji34) - 1)) t263 false)) = some r := H
                                have A35 := Aside0.mk A350
                                clear A350
                                have HC36 := Aside0.mk H
                                clear H
                                go_upto_region 29 with (first | ((with_reducible refine gate_callee (f := 19) rfl ?_); refine goesL_ (some 135) rfl rfl Try.func19 (by kernel_rfl) rfl #[.int .u64 a1] rfl (by (try simp only [List.map_toArray, List.map_cons, List.map_nil]); first | done | rfl | (simp only [List.length_drop, List.length_take]; rfl)) ?_; (with_reducible refine (ring_Irreducible.calls k4 a1 t263 t264 _ A35.out).mono ?_); rintro e w' ⟨rfl, ⟨nd, rfl⟩⟩; refine ⟨_, rfl, ?_⟩))
                                (try simp only [Act.put, List.setIfInBounds_toArray, List.set_cons_zero, List.set_cons_succ])
                                go_cut [144] (fun v144 wc => ∃ (kq : Nat) (x144_35 : Bool), v144 = .bool x144_35 ∧ Aside0 (culletlaw01_RingOrders.j5 kq a1 (wrap64 ((ji34) - 1)) t263 x144_35 = some r) ∧ Aside0 (kq ≤ k4) ∧ Drawn0 w wc)
                                case first =>
                                  have H := HC36.out
                                  clear HC36
                                  by_cases c37 : t263 = true
                                  · subst c37
                                    have H1 : (if t256 = 0 then (none) else (culletlaw01_RingOrders.j5 k4 a1 (wrap64 ((ji34) - 1)) true ((Int.tmod (wrap64 ((ji34) - 1)) t256) != 0))) = some r := by rw [if_pos rfl] at H; exact H
                                    clear H
                                    have H := H1
                                    clear H1
                                    by_cases c38 : t256 = 0
                                    · rw [if_pos c38] at H
                                      exact absurd H (by simp)
                                    · rw [if_neg c38] at H
                                      have c38b0 : (t256 == 0) = false := beq_eq_false_iff_ne.mpr c38
                                      have c38b1 : (t256 != 0) = true := bne_iff_ne.mpr c38
                                      (first | rw [c38b0] | (simp only [i64_w, i32_w]; rw [c38b0]) | skip)
                                      have H' := Aside0.mk H
                                      clear H
                                      go_wp2
                                      go_meet
                                      case rel => exact ⟨_, (((Int.tmod (wrap64 ((ji34) - 1)) t256) != 0)), (by first | rfl | (simp; done) | (simp only [← hji34] <;> (first | rfl | simp)) | (simp [*]; done)), H', ⟨by have := HJ3.out; have := HJ7.out; have := HJ18.out; have := HK4.out; first | omega | exact Nat.le_refl _⟩, by repeat (first | exact Drawn0.refl _ | apply Drawn0.step)⟩
                                  · replace c37 := Bool.eq_false_iff.mpr c37
                                    subst c37
                                    have H1 : (culletlaw01_RingOrders.j5 k4 a1 (wrap64 ((ji34) - 1)) false false) = some r := by rw [if_neg (show ¬ (false = true) by decide)] at H; exact H
                                    clear H
                                    have H := H1
                                    clear H1
                                    have H' := Aside0.mk H
                                    clear H
                                    go_wp2
                                    go_meet
                                    case rel => exact ⟨_, (false), (by first | rfl | (simp; done) | (simp [*]; done)), H', ⟨by have := HJ3.out; have := HJ7.out; have := HJ18.out; have := HK4.out; first | omega | exact Nat.le_refl _⟩, by repeat (first | exact Drawn0.refl _ | apply Drawn0.step)⟩
                                case rest =>
                                  clear HC36
                                  try clear c1
                                  try clear c2
                                  try clear p2
                                  try clear c3
                                  try clear c5
                                  try clear c5b0
                                  try clear c5b1
                                  try clear c6
                                  try clear p6
                                  try clear c7
                                  try clear c9
                                  try clear c9b0
                                  try clear c10
                                  try clear c11
                                  try clear c12
                                  try clear c13
                                  try clear c13b0
                                  try clear c13b1
                                  try clear c14
                                  try clear c15
                                  try clear c15b0
                                  try clear c15b1
                                  try clear c16
                                  try clear c18
                                  try clear c18b0
                                  try clear c18b1
                                  try clear c19
                                  try clear c20
                                  try clear c20b0
                                  try clear c20b1
                                  try clear c21
                                  try clear c21b0
                                  try clear c22
                                  try clear c24
                                  try clear c24b0
                                  try clear c24b1
                                  try clear c25
                                  try clear c25b0
                                  try clear c26
                                  try clear c26b0
                                  try clear c26b1
                                  try clear c27
                                  try clear c27b0
                                  try clear c27b1
                                  try clear c28
                                  try clear c28b0
                                  try clear c28b1
                                  try clear c29
                                  try clear c29b0
                                  try clear c29b1
                                  try clear c31
                                  try clear c31b0
                                  try clear c31b1
                                  try clear c33
                                  try clear c33b0
                                  try clear c33b1
                                  try clear c37
                                  try clear c38
                                  try clear c38b0
                                  try clear c38b1
                                  try clear p2
                                  obtain ⟨kq, x144_35, rfl, HA, HJ35, ⟨mc35, rfl⟩⟩ := hcut
                                  cases kq with
                                  | zero => exact absurd HA.out (by simp [culletlaw01_RingOrders.j5])
                                  | succ kj35 =>
                                    have H := HA.out
                                    clear HA
                                    simp only [culletlaw01_RingOrders.j5] at H
                                    by_cases c39 : x144_35 = true
                                    · subst c39
                                      have H1 : (some false) = some r := by rw [if_pos rfl] at H; exact H
                                      clear H
                                      have H := H1
                                      clear H1
                                      obtain rfl := Option.some.inj H
                                      go_wp2
                                      go_ret
                                      exact ⟨by first | rfl | (simp; done) | (simp only [← hji32, ← hji34] <;> (first | rfl | simp)) | (simp [*]; done), by repeat (first | exact Drawn0.refl _ | apply Drawn0.step)⟩
                                    · replace c39 := Bool.eq_false_iff.mpr c39
                                      subst c39
                                      have H1 : ((ring_Order.f kj35 2 a1).bind fun bt265 => ((ring_Primitive.f kj35 a1).bind fun bt267 => (if bt267.2 = 0 then (if t263 = true then (some (bt267.1 == (bt265.1 == (wrap64 ((ji34) - 1))))) else (some (bt267.1 == false))) else (some false)))) = some r := by rw [if_neg (show ¬ (false = true) by decide)] at H; exact H
                                      clear H
                                      have H := H1
                                      clear H1
                                      replace H := Option.bind_eq_some_iff.mp H
                                      obtain ⟨⟨t265, t266⟩, A400, H⟩ := H
                                      replace H : ((ring_Primitive.f kj35 a1).bind fun bt267 => (if bt267.2 = 0 then (if t263 = true then (some (bt267.1 == (t265 == (wrap64 ((ji34) - 1))))) else (some (bt267.1 == false))) else (some false))) = some r := H
                                      have A40 := Aside0.mk A400
                                      clear A400
                                      replace H := Option.bind_eq_some_iff.mp H
                                      obtain ⟨⟨t267, t268⟩, A410, H⟩ := H
                                      replace H : (if t268 = 0 then (if t263 = true then (some (t267 == (t265 == (wrap64 ((ji34) - 1))))) else (some (t267 == false))) else (some false)) = some r := H
                                      have A41 := Aside0.mk A410
                                      clear A410
                                      by_cases c42 : t268 = 0
                                      · rw [if_pos c42] at H
                                        have c42b0 : (t268 == 0) = true := beq_iff_eq.mpr c42
                                        have c42b1 : (t268 != 0) = false := bne_eq_false_iff_eq.mpr c42
                                        clear c42
                                        by_cases c43 : t263 = true
                                        · subst c43
                                          have H1 : (some (t267 == (t265 == (wrap64 ((ji34) - 1))))) = some r := by rw [if_pos rfl] at H; exact H
                                          clear H
                                          have H := H1
                                          clear H1
                                          obtain rfl := Option.some.inj H
                                          go_wp2_with (first | ((with_reducible refine gate_callee (f := 21) rfl ?_); refine goesL_ (some 147) rfl rfl Try.func21 (by kernel_rfl) rfl #[.int .u64 2, .int .u64 a1] rfl (by (try simp only [List.map_toArray, List.map_cons, List.map_nil]); first | done | rfl | (simp only [List.length_drop, List.length_take]; rfl)) ?_; (with_reducible refine (ring_Order.calls kj35 2 a1 t265 t266 _ A40.out).mono ?_); rintro e w' ⟨rfl, ⟨nd, rfl⟩⟩; refine ⟨_, rfl, ?_⟩) | ((with_reducible refine gate_callee (f := 20) rfl ?_); refine goesL_ (some 152) rfl rfl Try.func20 (by kernel_rfl) rfl #[.int .u64 a1] rfl (by (try simp only [List.map_toArray, List.map_cons, List.map_nil]); first | done | rfl | (simp only [List.length_drop, List.length_take]; rfl)) ?_; (with_reducible refine (ring_Primitive.calls kj35 a1 t267 t268 _ A41.out).mono ?_); rintro e w' ⟨rfl, ⟨nd, rfl⟩⟩; refine ⟨_, rfl, ?_⟩))
                                          go_ret
                                          exact ⟨by first | rfl | (simp; done) | (simp only [← hji32, ← hji34] <;> (first | rfl | simp)) | (simp [*]; done), by repeat (first | exact Drawn0.refl _ | apply Drawn0.step)⟩
                                        · replace c43 := Bool.eq_false_iff.mpr c43
                                          subst c43
                                          have H1 : (some (t267 == false)) = some r := by rw [if_neg (show ¬ (false = true) by decide)] at H; exact H
                                          clear H
                                          have H := H1
                                          clear H1
                                          obtain rfl := Option.some.inj H
                                          go_wp2_with (first | ((with_reducible refine gate_callee (f := 21) rfl ?_); refine goesL_ (some 147) rfl rfl Try.func21 (by kernel_rfl) rfl #[.int .u64 2, .int .u64 a1] rfl (by (try simp only [List.map_toArray, List.map_cons, List.map_nil]); first | done | rfl | (simp only [List.length_drop, List.length_take]; rfl)) ?_; (with_reducible refine (ring_Order.calls kj35 2 a1 t265 t266 _ A40.out).mono ?_); rintro e w' ⟨rfl, ⟨nd, rfl⟩⟩; refine ⟨_, rfl, ?_⟩) | ((with_reducible refine gate_callee (f := 20) rfl ?_); refine goesL_ (some 152) rfl rfl Try.func20 (by kernel_rfl) rfl #[.int .u64 a1] rfl (by (try simp only [List.map_toArray, List.map_cons, List.map_nil]); first | done | rfl | (simp only [List.length_drop, List.length_take]; rfl)) ?_; (with_reducible refine (ring_Primitive.calls kj35 a1 t267 t268 _ A41.out).mono ?_); rintro e w' ⟨rfl, ⟨nd, rfl⟩⟩; refine ⟨_, rfl, ?_⟩))
                                          go_ret
                                          exact ⟨by first | rfl | (simp; done) | (simp only [← hji32, ← hji34] <;> (first | rfl | simp)) | (simp [*]; done), by repeat (first | exact Drawn0.refl _ | apply Drawn0.step)⟩
                                      · rw [if_neg c42] at H
                                        have c42b0 : (t268 == 0) = false := beq_eq_false_iff_ne.mpr c42
                                        have c42b1 : (t268 != 0) = true := bne_iff_ne.mpr c42
                                        obtain rfl := Option.some.inj H
                                        go_wp2_with (first | ((with_reducible refine gate_callee (f := 21) rfl ?_); refine goesL_ (some 147) rfl rfl Try.func21 (by kernel_rfl) rfl #[.int .u64 2, .int .u64 a1] rfl (by (try simp only [List.map_toArray, List.map_cons, List.map_nil]); first | done | rfl | (simp only [List.length_drop, List.length_take]; rfl)) ?_; (with_reducible refine (ring_Order.calls kj35 2 a1 t265 t266 _ A40.out).mono ?_); rintro e w' ⟨rfl, ⟨nd, rfl⟩⟩; refine ⟨_, rfl, ?_⟩) | ((with_reducible refine gate_callee (f := 20) rfl ?_); refine goesL_ (some 152) rfl rfl Try.func20 (by kernel_rfl) rfl #[.int .u64 a1] rfl (by (try simp only [List.map_toArray, List.map_cons, List.map_nil]); first | done | rfl | (simp only [List.length_drop, List.length_take]; rfl)) ?_; (with_reducible refine (ring_Primitive.calls kj35 a1 t267 t268 _ A41.out).mono ?_); rintro e w' ⟨rfl, ⟨nd, rfl⟩⟩; refine ⟨_, rfl, ?_⟩))
                                        go_ret
                                        exact ⟨by first | rfl | (simp; done) | (simp only [← hji32, ← hji34] <;> (first | rfl | simp)) | (simp [*]; done), by repeat (first | exact Drawn0.refl _ | apply Drawn0.step)⟩
                              · rw [if_neg c33] at H
                                exact absurd H (by simp)
                      · rw [if_neg c24] at H
                        have c24b0 : (t259 == 1) = false := beq_eq_false_iff_ne.mpr c24
                        have c24b1 : (t259 != 1) = true := bne_iff_ne.mpr c24
                        obtain rfl := Option.some.inj H
                        go_wp2_with (first | ((with_reducible refine gate_callee (f := 22) rfl ?_); refine goesL_ (some 95) rfl rfl Try.func22 (by kernel_rfl) rfl #[.int .u64 a0, .int .u64 (IntKind.u64.wrap (t256)), .int .u64 a1] rfl (by (try simp only [List.map_toArray, List.map_cons, List.map_nil]); first | done | rfl | (simp only [List.length_drop, List.length_take]; rfl)) ?_; (with_reducible refine (ring_PowMod.calls kj18 a0 (IntKind.u64.wrap (t256)) a1 t259 t260 _ A23.out).mono ?_); rintro e w' ⟨rfl, ⟨nd, rfl⟩⟩; refine ⟨_, rfl, ?_⟩))
                        go_ret
                        exact ⟨by first | rfl | (simp; done) | (simp [*]; done), by repeat (first | exact Drawn0.refl _ | apply Drawn0.step)⟩
              · rw [if_neg c18] at H
                have c18b0 : (t258 == 1) = false := beq_eq_false_iff_ne.mpr c18
                have c18b1 : (t258 != 1) = true := bne_iff_ne.mpr c18
                by_cases c44 : t256 = 0
                · rw [if_pos c44] at H
                  have c44b0 : (t256 == 0) = true := beq_iff_eq.mpr c44
                  have c44b1 : (t256 != 0) = false := bne_eq_false_iff_eq.mpr c44
                  clear c44
                  obtain rfl := Option.some.inj H
                  go_wp2_with (first | ((with_reducible refine gate_callee (f := 21) rfl ?_); refine goesL_ (some 67) rfl rfl Try.func21 (by kernel_rfl) rfl #[.int .u64 a0, .int .u64 a1] rfl (by (try simp only [List.map_toArray, List.map_cons, List.map_nil]); first | done | rfl | (simp only [List.length_drop, List.length_take]; rfl)) ?_; (with_reducible refine (ring_Order.calls kj7 a0 a1 t256 t257 _ A16.out).mono ?_); rintro e w' ⟨rfl, ⟨nd, rfl⟩⟩; refine ⟨_, rfl, ?_⟩) | ((with_reducible refine gate_callee (f := 12) rfl ?_); refine goesL_ (some 72) rfl rfl Try.func12 (by kernel_rfl) rfl #[.int .u64 a0, .int .u64 a1] rfl (by (try simp only [List.map_toArray, List.map_cons, List.map_nil]); first | done | rfl | (simp only [List.length_drop, List.length_take]; rfl)) ?_; (with_reducible refine (ring_Gcd.calls kj7 a0 a1 t258 _ A17.out).mono ?_); rintro e w' ⟨rfl, ⟨nd, rfl⟩⟩; refine ⟨_, rfl, ?_⟩))
                  go_ret
                  exact ⟨by first | rfl | (simp; done) | (simp [*]; done), by repeat (first | exact Drawn0.refl _ | apply Drawn0.step)⟩
                · rw [if_neg c44] at H
                  have c44b0 : (t256 == 0) = false := beq_eq_false_iff_ne.mpr c44
                  have c44b1 : (t256 != 0) = true := bne_iff_ne.mpr c44
                  obtain rfl := Option.some.inj H
                  go_wp2_with (first | ((with_reducible refine gate_callee (f := 21) rfl ?_); refine goesL_ (some 67) rfl rfl Try.func21 (by kernel_rfl) rfl #[.int .u64 a0, .int .u64 a1] rfl (by (try simp only [List.map_toArray, List.map_cons, List.map_nil]); first | done | rfl | (simp only [List.length_drop, List.length_take]; rfl)) ?_; (with_reducible refine (ring_Order.calls kj7 a0 a1 t256 t257 _ A16.out).mono ?_); rintro e w' ⟨rfl, ⟨nd, rfl⟩⟩; refine ⟨_, rfl, ?_⟩) | ((with_reducible refine gate_callee (f := 12) rfl ?_); refine goesL_ (some 72) rfl rfl Try.func12 (by kernel_rfl) rfl #[.int .u64 a0, .int .u64 a1] rfl (by (try simp only [List.map_toArray, List.map_cons, List.map_nil]); first | done | rfl | (simp only [List.length_drop, List.length_take]; rfl)) ?_; (with_reducible refine (ring_Gcd.calls kj7 a0 a1 t258 _ A17.out).mono ?_); rintro e w' ⟨rfl, ⟨nd, rfl⟩⟩; refine ⟨_, rfl, ?_⟩))
                  go_ret
                  exact ⟨by first | rfl | (simp; done) | (simp [*]; done), by repeat (first | exact Drawn0.refl _ | apply Drawn0.step)⟩

/-- THE ONE PURE STATEMENT of culletlaw01_RingOrders: yours. -/
def culletlaw01_RingOrders.Pure : Prop := ∀ (a0 : Int) (a1 : Int), (Lit.int .u64 a0).wf = true → (Lit.int .u64 a1).wf = true → ∃ k, culletlaw01_RingOrders.f k a0 a1 = some true
theorem culletlaw01_RingOrders.walk (P : culletlaw01_RingOrders.Pure) (a0 : Int) (a1 : Int) (w : World) (w0 : (Lit.int .u64 a0).wf = true) (w1 : (Lit.int .u64 a1).wf = true) :
    Calls Try.prog 11 #[.int .u64 a0, .int .u64 a1] w fun e w' => e = .returned (.bool true) ∧ Below w.heap.size w w' := by
  obtain ⟨k, h⟩ := P a0 a1 w0 w1
  refine (culletlaw01_RingOrders.calls k a0 a1 true w h).mono ?_
  rintro e w' ⟨rfl, hd⟩
  exact ⟨rfl, hd.below⟩

end Go.Proofs.Ytilacemjflomfaa.Q
