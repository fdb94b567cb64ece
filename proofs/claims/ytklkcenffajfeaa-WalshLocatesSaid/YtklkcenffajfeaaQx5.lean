import Derived.Test.YtklkcenffajfeaaQx0
import Derived.Test.YtklkcenffajfeaaQx4
-- Printed for this claim by mp.py, a program of its prover, through the kit's print. Lean checks it.
namespace Go.Proofs.Ytklkcenffajfeaa.Q
open Go.RowKit Go.Proofs.YtklkcenffajfeaaW.PrintWords Go.Proofs.YtklkcenffajfeaaW.PrintLast Go.Proofs.YtklkcenffajfeaaW.PrintMore Go.Proofs.Ytklkcenffajfeaa.A Go.Proofs.Ytklkcenffajfeaa.F Go.Proofs.Ytklkcenffajfeaa.G
attribute [local go_sem] max2_int min2_int max_two min_two max_three min_three max_four min_four   -- for this text's walks alone
set_option linter.unusedVariables false
set_option linter.unusedSimpArgs false

/-! ### culletlaw15_sameInts: function 25 -/
def culletlaw15_sameInts.l0 : Nat → List Int → List Int → Int → Int → Option (Bool)
 | 0, _, _, _, _ => none
 | k + 1, x0, x1, x12, x13 => if x13 < x12 then (if 0 ≤ x13 then (if x13 < (x0.length : Int) then (if x13 < (x1.length : Int) then (if (rd x0 x13) = (rd x1 x13) then (culletlaw15_sameInts.l0 k x0 x1 x12 (wrap64 (x13 + 1))) else (some false)) else (none)) else (none)) else (none)) else (some true)
def culletlaw15_sameInts.f (k : Nat) (l0 : List Int) (l1 : List Int) : Option (Bool) := if (l0.length : Int) = (l1.length : Int) then (culletlaw15_sameInts.l0 k l0 l1 (l0.length : Int) 0) else (some false)
theorem culletlaw15_sameInts.mono_l : ∀ k, (∀ y0 y1 y2 y3, LeO (culletlaw15_sameInts.l0 k y0 y1 y2 y3) (culletlaw15_sameInts.l0 (k + 1) y0 y1 y2 y3))
 | 0 => fun _ _ _ _ r h => by simp [culletlaw15_sameInts.l0] at h
 | k + 1 => by
  have ih0 := culletlaw15_sameInts.mono_l k
  ·intro y0 y1 y2 y3
   unfold culletlaw15_sameInts.l0
   repeat' first
   | (with_reducible exact ih0 _ _ _ _)
   | (with_reducible exact LeO.refl _)
   | (with_reducible exact LeO.none _)
   | (with_reducible refine LeO.ite ?_ ?_)
   | (with_reducible refine LeO.bind ?_ (fun _ => ?_))
   | exact ih0 _ _ _ _
   | exact LeO.none _
   | refine LeO.ite ?_ ?_
   | refine LeO.bind ?_ (fun _ => ?_)
theorem culletlaw15_sameInts.mono : ∀ a0 a1 k, LeO (culletlaw15_sameInts.f k a0 a1) (culletlaw15_sameInts.f (k + 1) a0 a1) := by
 intro a0 a1 k
 have ih0 := culletlaw15_sameInts.mono_l k
 unfold culletlaw15_sameInts.f
 repeat' first
   | (with_reducible exact ih0 _ _ _ _)
   | (with_reducible exact LeO.refl _)
   | (with_reducible exact LeO.none _)
   | (with_reducible refine LeO.ite ?_ ?_)
   | (with_reducible refine LeO.bind ?_ (fun _ => ?_))
   | exact ih0 _ _ _ _
   | exact LeO.none _
   | refine LeO.ite ?_ ?_
   | refine LeO.bind ?_ (fun _ => ?_)
set_option maxHeartbeats 8000000 in
set_option maxRecDepth 100000 in
theorem culletlaw15_sameInts.calls (k : Nat) (A0 : Option Addr) (c0 : Nat) (l0 : List Int) (A1 : Option Addr) (c1 : Nat) (l1 : List Int) (r : Bool) (w : World) (hr0 : Kd.C (Kd.int .i64) w A0 l0.length l0) (hc0 : l0.length ≤ c0) (hr1 : Kd.C (Kd.int .i64) w A1 l1.length l1) (hc1 : l1.length ≤ c1) (h : culletlaw15_sameInts.f k l0 l1 = some r) :
  Calls Try.prog 25 #[.slice A0 l0.length c0, .slice A1 l1.length c1] w fun e w' => e = .returned (.bool r) ∧ Drawn0 w w' := by
 have HR0 := Aside0.mk hr0
 have HC0 := Aside0.mk hc0
 clear hr0 hc0
 have HR1 := Aside0.mk hr1
 have HC1 := Aside0.mk hc1
 clear hr1 hc1
 have H : (if (l0.length : Int) = (l1.length : Int) then (culletlaw15_sameInts.l0 k l0 l1 (l0.length : Int) 0) else (some false)) = some r := h
 clear h
 by_cases c3 : (l0.length : Int) = (l1.length : Int)
 ·rw [if_pos c3] at H
  have c3b0 : ((l0.length : Int) == (l1.length : Int)) = true := beq_iff_eq.mpr c3
  have c3b1 : ((l0.length : Int) != (l1.length : Int)) = false := bne_eq_false_iff_eq.mpr c3
  have c3b2 : (l0.length == l1.length) = true := by first | simpa using c3 | (simp at c3 ⊢; omega)
  clear c3
  have H' := Aside0.mk H
  clear H
  go_enter Try.func25, Try.ntmps25
  go_wp2
  repeat (go_quiet (fail); try go_wp2)
  go_loopg [13] k (fun kq v13 w' => ∃ (x13_1 : Int), v13 = .int .i64 x13_1 ∧ Aside0 (culletlaw15_sameInts.l0 kq l0 l1 (l0.length : Int) x13_1 = some r) ∧ Aside0 (kq ≤ k) ∧ Drawn0 w w')
  case atStart => exact ⟨(0), (by first | rfl | (simp; done) | (simp [*]; done)), H', ⟨Nat.le_refl _⟩, by repeat (first | exact Drawn0.refl _ | apply Drawn0.step)⟩
  case round =>
   clear H'
   try clear c1
   try clear c2
   try clear p2
   try clear c3
   try clear c3b0
   try clear c3b1
   try clear c3b2
   obtain ⟨x13_1, rfl, HA, HK1, ⟨m1, rfl⟩⟩ := hrel
   cases gk with
   | zero => exact absurd HA.out (by simp [culletlaw15_sameInts.l0])
   | succ k1 =>
    have H := HA.out
    clear HA
    simp only [culletlaw15_sameInts.l0] at H
    by_cases c4 : x13_1 < (l0.length : Int)
    ·rw [if_pos c4] at H
     have c4b0 : decide (x13_1 < (l0.length : Int)) = true := decide_eq_true c4
     clear c4
     by_cases c5 : 0 ≤ x13_1
     ·rw [if_pos c5] at H
      have c5b0 : decide (0 ≤ x13_1) = true := decide_eq_true c5
      clear c5
      by_cases c6 : x13_1 < (l0.length : Int)
      ·rw [if_pos c6] at H
       have c6b0 : decide (x13_1 < (l0.length : Int)) = true := decide_eq_true c6
       clear c6
       by_cases c7 : x13_1 < (l1.length : Int)
       ·rw [if_pos c7] at H
        have c7b0 : decide (x13_1 < (l1.length : Int)) = true := decide_eq_true c7
        clear c7
        by_cases c8 : (rd l0 x13_1) = (rd l1 x13_1)
        ·rw [if_pos c8] at H
         have c8b0 : ((rd l0 x13_1) == (rd l1 x13_1)) = true := beq_iff_eq.mpr c8
         have c8b1 : ((rd l0 x13_1) != (rd l1 x13_1)) = false := bne_eq_false_iff_eq.mpr c8
         clear c8
         have H' := Aside0.mk H
         clear H
         have p189 : 0 ≤ (x13_1 : Int) := of_decide_eq_true (by first | (with_reducible assumption) | assumption)
         have q189 : x13_1 < (l0.length : Int) := of_decide_eq_true (by first | (with_reducible assumption) | assumption)
         obtain ⟨ad189, e189, hx189_0⟩ := Kd.at_int HR0.out x13_1 p189 q189
         cases e189
         replace p189 := eq_true p189
         replace q189 := eq_true q189
         have p190 : 0 ≤ (x13_1 : Int) := of_decide_eq_true (by first | (with_reducible assumption) | assumption)
         have q190 : x13_1 < (l1.length : Int) := of_decide_eq_true (by first | (with_reducible assumption) | assumption)
         obtain ⟨ad190, e190, hx190_0⟩ := Kd.at_int HR1.out x13_1 p190 q190
         cases e190
         replace p190 := eq_true p190
         replace q190 := eq_true q190
         go_wp2
         repeat (go_quiet (fail); try go_wp2)
         go_roundg k1
         case measure => have := HK1.out; omega
         case rel => exact ⟨(wrap64 (x13_1 + 1)), (by first | rfl | (simp; done) | (simp [*]; done)), H', ⟨by have := HK1.out; omega⟩, by repeat (first | exact Drawn0.refl _ | apply Drawn0.step)⟩
        ·rw [if_neg c8] at H
         have c8b0 : ((rd l0 x13_1) == (rd l1 x13_1)) = false := beq_eq_false_iff_ne.mpr c8
         have c8b1 : ((rd l0 x13_1) != (rd l1 x13_1)) = true := bne_iff_ne.mpr c8
         obtain rfl := Option.some.inj H
         have p189 : 0 ≤ (x13_1 : Int) := of_decide_eq_true (by first | (with_reducible assumption) | assumption)
         have q189 : x13_1 < (l0.length : Int) := of_decide_eq_true (by first | (with_reducible assumption) | assumption)
         obtain ⟨ad189, e189, hx189_0⟩ := Kd.at_int HR0.out x13_1 p189 q189
         cases e189
         replace p189 := eq_true p189
         replace q189 := eq_true q189
         have p190 : 0 ≤ (x13_1 : Int) := of_decide_eq_true (by first | (with_reducible assumption) | assumption)
         have q190 : x13_1 < (l1.length : Int) := of_decide_eq_true (by first | (with_reducible assumption) | assumption)
         obtain ⟨ad190, e190, hx190_0⟩ := Kd.at_int HR1.out x13_1 p190 q190
         cases e190
         replace p190 := eq_true p190
         replace q190 := eq_true q190
         go_wp2
         repeat (go_quiet (fail); try go_wp2)
         go_ret
         exact ⟨by first | rfl | (simp; done) | (simp [*]; done), by repeat (first | exact Drawn0.refl _ | apply Drawn0.step)⟩
       ·rw [if_neg c7] at H
        exact absurd H (by simp)
      ·rw [if_neg c6] at H
       exact absurd H (by simp)
     ·rw [if_neg c5] at H
      exact absurd H (by simp)
    ·rw [if_neg c4] at H
     have c4b0 : decide (x13_1 < (l0.length : Int)) = false := decide_eq_false c4
     clear c4
     obtain rfl := Option.some.inj H
     go_wp2
     repeat (go_quiet (fail); try go_wp2)
     go_ret
     exact ⟨by first | rfl | (simp; done) | (simp [*]; done), by repeat (first | exact Drawn0.refl _ | apply Drawn0.step)⟩
 ·rw [if_neg c3] at H
  have c3b0 : ((l0.length : Int) == (l1.length : Int)) = false := beq_eq_false_iff_ne.mpr c3
  have c3b1 : ((l0.length : Int) != (l1.length : Int)) = true := bne_iff_ne.mpr c3
  have c3b2 : (l0.length == l1.length) = false := by first | simpa using c3 | (simp at c3 ⊢; omega)
  obtain rfl := Option.some.inj H
  go_enter Try.func25, Try.ntmps25
  go_wp2
  repeat (go_quiet (fail); try go_wp2)
  go_ret
  exact ⟨by first | rfl | (simp; done) | (simp [*]; done), by repeat (first | exact Drawn0.refl _ | apply Drawn0.step)⟩

/-! ### culletref03_Exps: function 51: told before -/

/-! ### culletref15_Products: function 27 -/
def culletref15_Products.l0 : Nat → List Int → List Int → List Int → Int → Int → Option (List Int × Int)
 | 0, _, _, _, _, _ => none
 | k + 1, x8, x9, x25, x26, x27 => if x27 < x26 then (if 0 ≤ x27 then (if x27 < (x25.length : Int) then (if 0 ≤ (rd x25 x27) then (if (rd x25 x27) < (x8.length : Int) then (if x27 < (x9.length : Int) then (culletref15_Products.l0 k x8 (x9.set (x27 : Int).toNat (rd x8 (rd x25 x27))) x25 x26 (wrap64 (x27 + 1))) else (none)) else (none)) else (none)) else (none)) else (none)) else (some (x9, 0))
def culletref15_Products.f (k : Nat) (l0 : List Int) (a1 : Int) : Option (List Int × Int) := (culletref15_Locator.f k l0 a1).bind fun bt191 => (if bt191.2 = 0 then ((culletref03_Exps.f k).bind fun t195 => (if 0 ≤ (bt191.1.length : Int) then (if ((bt191.1.length : Int) : Int).toNat ≤ 140737488355328 then (culletref15_Products.l0 k t195 (List.replicate ((bt191.1.length : Int) : Int).toNat 0) bt191.1 (bt191.1.length : Int) 0) else (none)) else (none))) else (some (([] : List Int), bt191.2)))
theorem culletref15_Products.mono_l : ∀ k, (∀ y0 y1 y2 y3 y4, LeO (culletref15_Products.l0 k y0 y1 y2 y3 y4) (culletref15_Products.l0 (k + 1) y0 y1 y2 y3 y4))
 | 0 => fun _ _ _ _ _ r h => by simp [culletref15_Products.l0] at h
 | k + 1 => by
  have ih0 := culletref15_Products.mono_l k
  ·intro y0 y1 y2 y3 y4
   unfold culletref15_Products.l0
   repeat' first
   | (with_reducible exact ih0 _ _ _ _ _)
   | (with_reducible exact culletref03_Exps.mono _)
   | (with_reducible exact culletref15_Locator.mono _ _ _)
   | (with_reducible exact LeO.refl _)
   | (with_reducible exact LeO.none _)
   | (with_reducible refine LeO.ite ?_ ?_)
   | (with_reducible refine LeO.bind ?_ (fun _ => ?_))
   | exact ih0 _ _ _ _ _
   | exact culletref03_Exps.mono _
   | exact culletref15_Locator.mono _ _ _
   | exact LeO.none _
   | refine LeO.ite ?_ ?_
   | refine LeO.bind ?_ (fun _ => ?_)
theorem culletref15_Products.mono : ∀ a0 a1 k, LeO (culletref15_Products.f k a0 a1) (culletref15_Products.f (k + 1) a0 a1) := by
 intro a0 a1 k
 have ih0 := culletref15_Products.mono_l k
 unfold culletref15_Products.f
 repeat' first
   | (with_reducible exact ih0 _ _ _ _ _)
   | (with_reducible exact culletref03_Exps.mono _)
   | (with_reducible exact culletref15_Locator.mono _ _ _)
   | (with_reducible exact LeO.refl _)
   | (with_reducible exact LeO.none _)
   | (with_reducible refine LeO.ite ?_ ?_)
   | (with_reducible refine LeO.bind ?_ (fun _ => ?_))
   | exact ih0 _ _ _ _ _
   | exact culletref03_Exps.mono _
   | exact culletref15_Locator.mono _ _ _
   | exact LeO.none _
   | refine LeO.ite ?_ ?_
   | refine LeO.bind ?_ (fun _ => ?_)
set_option maxHeartbeats 8000000 in
set_option maxRecDepth 100000 in
theorem culletref15_Products.calls (k : Nat) (A0 : Option Addr) (c0 : Nat) (l0 : List Int) (a1 : Int) (r1 : List Int) (r2 : Int) (w : World) (hr0 : Kd.C (Kd.int .i64) w A0 l0.length l0) (hc0 : l0.length ≤ c0) (h : culletref15_Products.f k l0 a1 = some (r1, r2)) :
  Calls Try.prog 27 #[.slice A0 l0.length c0, .int .i64 a1] w fun e w' => ∃ v0_ : Value, e = .returned (.tuple #[v0_, .int .i64 r2]) ∧ Kd.R (Kd.int .u16) 33 w' w.heap.size (fun _ => True) v0_ r1 ∧ Below w.heap.size w w' := by
 have HR0 := Aside0.mk hr0
 have HC0 := Aside0.mk hc0
 clear hr0 hc0
 have HB := Aside0.mk (Below.refl w.heap.size w)
 have H : ((culletref15_Locator.f k l0 a1).bind fun bt191 => (if bt191.2 = 0 then ((culletref03_Exps.f k).bind fun t195 => (if 0 ≤ (bt191.1.length : Int) then (if ((bt191.1.length : Int) : Int).toNat ≤ 140737488355328 then (culletref15_Products.l0 k t195 (List.replicate ((bt191.1.length : Int) : Int).toNat 0) bt191.1 (bt191.1.length : Int) 0) else (none)) else (none))) else (some (([] : List Int), bt191.2)))) = some (r1, r2) := h
 clear h
 replace H := Option.bind_eq_some_iff.mp H
 obtain ⟨⟨t191, t192⟩, A30, H⟩ := H
 replace H : (if t192 = 0 then ((culletref03_Exps.f k).bind fun t195 => (if 0 ≤ (t191.length : Int) then (if ((t191.length : Int) : Int).toNat ≤ 140737488355328 then (culletref15_Products.l0 k t195 (List.replicate ((t191.length : Int) : Int).toNat 0) t191 (t191.length : Int) 0) else (none)) else (none))) else (some (([] : List Int), t192))) = some (r1, r2) := H
 have A3 := Aside0.mk A30
 clear A30
 by_cases c4 : t192 = 0
 ·rw [if_pos c4] at H
  have c4b0 : (t192 == 0) = true := beq_iff_eq.mpr c4
  have c4b1 : (t192 != 0) = false := bne_eq_false_iff_eq.mpr c4
  clear c4
  replace H := Option.bind_eq_some_iff.mp H
  obtain ⟨t195, A50, H⟩ := H
  replace H : (if 0 ≤ (t191.length : Int) then (if ((t191.length : Int) : Int).toNat ≤ 140737488355328 then (culletref15_Products.l0 k t195 (List.replicate ((t191.length : Int) : Int).toNat 0) t191 (t191.length : Int) 0) else (none)) else (none)) = some (r1, r2) := H
  have A5 := Aside0.mk A50
  clear A50
  by_cases c6 : 0 ≤ (t191.length : Int)
  ·rw [if_pos c6] at H
   have c6b0 := eq_true c6
   have c6b1 : decide (0 ≤ (t191.length : Int)) = true := decide_eq_true c6
   clear c6
   by_cases c7 : ((t191.length : Int) : Int).toNat ≤ 140737488355328
   ·rw [if_pos c7] at H
    have c7b0 := eq_true c7
    have c7b1 : decide (((t191.length : Int) : Int).toNat ≤ 140737488355328) = true := decide_eq_true c7
    clear c7
    obtain ⟨y198, hy198⟩ : ∃ y_ : List Int, y_ = (List.replicate ((t191.length : Int) : Int).toNat 0) := ⟨_, rfl⟩
    replace H : (culletref15_Products.l0 k t195 y198 t191 (t191.length : Int) 0) = some (r1, r2) := by first | (rw [hy198]; with_reducible exact H) | (have H2_ := (Option.bind_some _ _).symm.trans H; rw [hy198]; with_reducible exact H2_) | (have H2_ := (Option.bind_some _ _).symm.trans H; with_reducible exact H2_) | with_reducible exact H | (rw [hy198]; exact H) | exact H
    have Ny198 := Aside0.mk hy198
    clear hy198
    have H' := Aside0.mk H
    clear H
    go_enter Try.func27, Try.ntmps27
    go_wp2_with (first | ((with_reducible refine gate_callee (f := 24) rfl ?_); refine goesL_ (some 15) rfl rfl Try.func24 (by kernel_rfl) rfl #[.slice A0 l0.length c0, .int .i64 a1] rfl (by (try simp only [List.map_toArray, List.map_cons, List.map_nil]); first | done | rfl | (simp only [tb_wrap8]; done) | (simp only [tb_wrap8]; rfl) | (simp only [List.length_drop, List.length_take]; rfl)) ?_; (with_reducible refine (culletref15_Locator.calls k _ _ l0 a1 t191 t192 _ ?side1 ?side2 A3.out).mono ?_); (case side1 => repeat (first | exact HR0.out | (with_reducible refine Kd.C_alloc ?_ _) | (with_reducible refine Kd.C_drewN ?_ _) | (with_reducible refine Kd.C_drew ?_))); (case side2 => exact HC0.out); rintro e w8 ⟨v193, rfl, ho0, hb⟩; refine ⟨_, rfl, ?_⟩; have n0_ := Aside0.mk (Kd.R_lower ho0 (below_size (by repeat (first | (with_reducible first | exact HB.out | apply below_alloc | apply pw_below_drewN | apply below_drew1) | exact HB.out)))); have n1_ := Aside0.mk (below_step (by repeat (first | (with_reducible first | exact HB.out | apply below_alloc | apply pw_below_drewN | apply below_drew1) | exact HB.out)) hb); clear HB; have HO194 := n0_; have HB := n1_; clear n0_ n1_; (try clear hb); (try clear hb2); (try clear hk); (try clear hi); (try clear ho0)) | ((with_reducible refine gate_callee (f := 51) rfl ?_); refine goesL_ (some 21) rfl rfl Try.func51 (by kernel_rfl) rfl #[] rfl (by (try simp only [List.map_toArray, List.map_cons, List.map_nil]); first | done | rfl | (simp only [tb_wrap8]; done) | (simp only [tb_wrap8]; rfl) | (simp only [List.length_drop, List.length_take]; rfl)) ?_; (with_reducible refine (culletref03_Exps.calls k  t195 _ A5.out).mono ?_); rintro e w9 ⟨v196, rfl, ho0, hb⟩; refine ⟨_, rfl, ?_⟩; have n0_ := Aside0.mk (Kd.R_elder' (by (with_reducible repeat (first | apply Kd.R_alloc | apply Kd.R_drewN | apply Kd.R_drew)); exact HO194.out) (Kd.R_base ho0) hb); have n1_ := Aside0.mk (Kd.R_lower (Kd.R_new' ho0 (Kd.R_lt (by (with_reducible repeat (first | apply Kd.R_alloc | apply Kd.R_drewN | apply Kd.R_drew)); exact HO194.out))) (below_size (by repeat (first | (with_reducible first | exact HB.out | apply below_alloc | apply pw_below_drewN | apply below_drew1) | exact HB.out)))); have n2_ := Aside0.mk (below_step (by repeat (first | (with_reducible first | exact HB.out | apply below_alloc | apply pw_below_drewN | apply below_drew1) | exact HB.out)) hb); clear HO194; clear HB; have HO194 := n0_; have HO197 := n1_; have HB := n2_; clear n0_ n1_ n2_; (try clear hb); (try clear hb2); (try clear hk); (try clear hi); (try clear ho0); obtain ⟨Ao10, co10, eo10⟩ := Kd.R_slice HO194.out; subst eo10) | ((with_reducible refine gate_dst (N := 24) rfl ?_); refine Kd.R_make (Kd.int .u16) _ 33 rfl (N := 24) rfl 22 _ _ rfl (t191.length : Int) rfl rfl Try.underlying22 (.int .u16 0) 2 info33 rfl (by decide) (by omega) 0 (ok := fun _ => True) (okp := fun _ => True) rfl (fun _ hk => hk) trivial (of_decide_eq_true (by first | (with_reducible assumption) | assumption)) (Nat.le_trans (Nat.mul_le_mul_right _ (of_decide_eq_true (by first | (with_reducible assumption) | assumption) : (t191.length : Int).toNat ≤ 140737488355328)) (by omega)) (Below.refl _ _) (Nat.le_refl _) ?_; intro v199 w11 ho12 hb hg_ hnew_; clear hg_ hnew_; (first | rw [← Ny198.out] at ho12 | (simp only [Int.reduceToNat] at ho12; rw [← Ny198.out] at ho12)); have n0_ := Aside0.mk (Kd.R_elder' (by (with_reducible repeat (first | apply Kd.R_alloc | apply Kd.R_drewN | apply Kd.R_drew)); exact HO194.out) (Kd.R_base ho12) hb); have n1_ := Aside0.mk (Kd.R_elder' (by (with_reducible repeat (first | apply Kd.R_alloc | apply Kd.R_drewN | apply Kd.R_drew)); exact HO197.out) (Kd.R_base ho12) hb); have n2_ := Aside0.mk (Kd.R_lower (Kd.R_new' (Kd.R_new' ho12 (Kd.R_lt (by (with_reducible repeat (first | apply Kd.R_alloc | apply Kd.R_drewN | apply Kd.R_drew)); exact HO194.out))) (Kd.R_lt (by (with_reducible repeat (first | apply Kd.R_alloc | apply Kd.R_drewN | apply Kd.R_drew)); exact HO197.out))) (below_size (by repeat (first | (with_reducible first | exact HB.out | apply below_alloc | apply pw_below_drewN | apply below_drew1) | exact HB.out)))); have n3_ := Aside0.mk (below_step (by repeat (first | (with_reducible first | exact HB.out | apply below_alloc | apply pw_below_drewN | apply below_drew1) | exact HB.out)) hb); clear HO194; clear HO197; clear HB; have HO194 := n0_; have HO197 := n1_; have HO200 := n2_; have HB := n3_; clear n0_ n1_ n2_ n3_; clear hb ho12))
    go_loopg [27] k (fun kq v27 w' => ∃ (x9_1 : List Int) (x27_1 : Int), v27 = .int .i64 x27_1 ∧ Aside0 (culletref15_Products.l0 kq t195 x9_1 t191 (t191.length : Int) x27_1 = some (r1, r2)) ∧ Aside0 (kq ≤ k) ∧ Aside0 (Kd.R (Kd.int .u16) 33 w' w.heap.size (fun k_ => some k_ ≠ (v199 : Value).ownBlock ∧ some k_ ≠ ((.slice Ao10 t191.length co10) : Value).ownBlock) v196 t195) ∧ Aside0 (Kd.R (Kd.int .u16) 33 w' w.heap.size (fun k_ => some k_ ≠ (v196 : Value).ownBlock ∧ some k_ ≠ ((.slice Ao10 t191.length co10) : Value).ownBlock) v199 x9_1) ∧ Aside0 (Kd.R (Kd.int .u16) 33 w' w.heap.size (fun k_ => some k_ ≠ (v196 : Value).ownBlock ∧ some k_ ≠ (v199 : Value).ownBlock) (.slice Ao10 t191.length co10) t191) ∧ Aside0 (Below w.heap.size w w'))
    case atStart => exact ⟨(y198), (0), (by first | rfl | (simp; done) | (simp [*]; done)), H', ⟨Nat.le_refl _⟩, ⟨by (with_reducible repeat (first | apply Kd.R_alloc | apply Kd.R_drewN | apply Kd.R_drew)); exact Kd.R_mono HO197.out (fun _ hk => ⟨hk.2, hk.1.2⟩)⟩, ⟨by (with_reducible repeat (first | apply Kd.R_alloc | apply Kd.R_drewN | apply Kd.R_drew)); exact Kd.R_mono HO200.out (fun _ hk => ⟨hk.2, hk.1.2⟩)⟩, ⟨by (with_reducible repeat (first | apply Kd.R_alloc | apply Kd.R_drewN | apply Kd.R_drew)); exact Kd.R_mono HO194.out (fun _ hk => ⟨hk.1.2, hk.2⟩)⟩, ⟨by repeat (first | (with_reducible first | exact HB.out | apply below_alloc | apply pw_below_drewN | apply below_drew1) | exact HB.out)⟩⟩
    case round =>
     clear H'
     try clear c2
     try clear p2
     try clear c4
     try clear c4b0
     try clear c4b1
     try clear c5
     try clear c6
     try clear c6b0
     try clear c6b1
     try clear c7
     try clear c7b0
     try clear c7b1
     try clear p8
     obtain ⟨x9_1, x27_1, rfl, HA, HK1, HO_8, HO_9, HO_25, HB⟩ := hrel
     cases gk with
     | zero => exact absurd HA.out (by simp [culletref15_Products.l0])
     | succ k1 =>
      have H := HA.out
      clear HA
      simp only [culletref15_Products.l0] at H
      by_cases c13 : x27_1 < (t191.length : Int)
      ·rw [if_pos c13] at H
       have c13b0 : decide (x27_1 < (t191.length : Int)) = true := decide_eq_true c13
       clear c13
       by_cases c14 : 0 ≤ x27_1
       ·rw [if_pos c14] at H
        have c14b0 : decide (0 ≤ x27_1) = true := decide_eq_true c14
        clear c14
        by_cases c15 : x27_1 < (t191.length : Int)
        ·rw [if_pos c15] at H
         have c15b0 : decide (x27_1 < (t191.length : Int)) = true := decide_eq_true c15
         clear c15
         by_cases c16 : 0 ≤ (rd t191 x27_1)
         ·rw [if_pos c16] at H
          have c16b0 : decide (0 ≤ (rd t191 x27_1)) = true := decide_eq_true c16
          clear c16
          by_cases c17 : (rd t191 x27_1) < (t195.length : Int)
          ·rw [if_pos c17] at H
           have c17b0 : decide ((rd t191 x27_1) < (t195.length : Int)) = true := decide_eq_true c17
           clear c17
           by_cases c18 : x27_1 < (x9_1.length : Int)
           ·rw [if_pos c18] at H
            have c18b0 : decide (x27_1 < (x9_1.length : Int)) = true := decide_eq_true c18
            clear c18
            obtain ⟨y203, hy203⟩ : ∃ y_ : List Int, y_ = (x9_1.set (x27_1 : Int).toNat (rd t195 (rd t191 x27_1))) := ⟨_, rfl⟩
            replace H : (culletref15_Products.l0 k1 t195 y203 t191 (t191.length : Int) (wrap64 (x27_1 + 1))) = some (r1, r2) := by first | (rw [hy203]; with_reducible exact H) | (have H2_ := (Option.bind_some _ _).symm.trans H; rw [hy203]; with_reducible exact H2_) | (have H2_ := (Option.bind_some _ _).symm.trans H; with_reducible exact H2_) | with_reducible exact H | (rw [hy203]; exact H) | exact H
            have Ny203 := Aside0.mk hy203
            clear hy203
            have H' := Aside0.mk H
            clear H
            have p201 : 0 ≤ (x27_1 : Int) := of_decide_eq_true (by first | (with_reducible assumption) | assumption)
            have q201 : x27_1 < (t191.length : Int) := of_decide_eq_true (by first | (with_reducible assumption) | assumption)
            obtain ⟨ad201, e201, hx201_0⟩ := Kd.at_int (Kd.R_reads' HO_25.out).2.2 x27_1 p201 q201
            cases e201
            replace p201 := eq_true p201
            replace q201 := eq_true q201
            obtain ⟨Ao20, co20, eo20⟩ := Kd.R_slice HO_8.out
            subst eo20
            have p202 : 0 ≤ ((rd t191 x27_1) : Int) := of_decide_eq_true (by first | (with_reducible assumption) | assumption)
            have q202 : (rd t191 x27_1) < (t195.length : Int) := of_decide_eq_true (by first | (with_reducible assumption) | assumption)
            obtain ⟨ad202, e202, hx202_0⟩ := Kd.at_int (Kd.R_reads' HO_8.out).2.2 (rd t191 x27_1) p202 q202
            cases e202
            replace p202 := eq_true p202
            replace q202 := eq_true q202
            have p19 : 0 ≤ (x27_1 : Int) := of_decide_eq_true (by first | (with_reducible assumption) | assumption)
            have q19 : (x27_1 : Int) < ((x9_1.length : Int) : Int) := of_decide_eq_true (by first | (with_reducible assumption) | assumption)
            obtain ⟨go19, co19, eo19, gb19, gl19, cl19, HG19⟩ := Kd.R_form HO_9.out (by omega)
            (first | cases eo19 | (injection eo19 with ea_ en_ ec_; (first | subst ea_ | (injection ea_ with ea_; subst ea_)); subst ec_; clear en_))
            have GB19 := Aside0.mk gb19
            have GG19 := Aside0.mk HG19
            clear gb19 gl19 HG19
            obtain ⟨hx19_0, hf19_0⟩ := Kd.R_celln 0 HO_9.out (x27_1 : Int) p19 q19
            replace p19 := eq_true p19
            replace q19 := eq_true q19
            have HP21 := Kd.R_putg HO_9.out (x27_1 : Int) (rd t195 (rd t191 x27_1))
            go_wp2_with (first | ((with_reducible refine gate_store (t := 33) (p := 38) rfl ?_); refine store_event (t := 33) (p := 38) (v := ?vo_w22) (w1 := (wr.setCell ⟨go19, (x27_1 : Int).toNat, none⟩ (.int .u16 (rd t195 (rd t191 x27_1))))) ?hg ?ho ?hn ?hr ?_; (case ho => rfl); (case hg => rfl); (case hn => rfl); (case hr => first | (go_simp; done) | (go_simp; rfl)); intro w22 hw; have hg : wr.grownBy w22 (some go19) := (by rw [hw]; exact HP21.2); have hp_ : Kd.R (Kd.int .u16) 33 w22 w.heap.size (fun k_ => some k_ ≠ (.slice (some ad202) t195.length co20 : Value).ownBlock ∧ some k_ ≠ (.slice (some ad201) t191.length co10 : Value).ownBlock) (.slice (some ⟨go19, 0, none⟩) x9_1.length co19) y203 := (by rw [hw, Ny203.out]; exact HP21.1); clear HP21; have n0_ := Aside0.mk (Kd.R_after (v := (.slice (some ⟨go19, 0, none⟩) x9_1.length co19)) (v1 := (.slice (some ⟨go19, 0, none⟩) x9_1.length co19)) (ok := (fun k_ => some k_ ≠ (.slice (some ad201) t191.length co10 : Value).ownBlock)) (by (with_reducible repeat (first | apply Kd.R_alloc | apply Kd.R_drewN | apply Kd.R_drew)); exact Kd.R_mono HO_8.out (fun _ hk => ⟨hk.2, hk.1⟩)) hg (.inl rfl)); have n1_ := Aside0.mk (hp_); have n2_ := Aside0.mk (Kd.R_after (v := (.slice (some ⟨go19, 0, none⟩) x9_1.length co19)) (v1 := (.slice (some ⟨go19, 0, none⟩) x9_1.length co19)) (ok := (fun k_ => some k_ ≠ (.slice (some ad202) t195.length co20 : Value).ownBlock)) (by (with_reducible repeat (first | apply Kd.R_alloc | apply Kd.R_drewN | apply Kd.R_drew)); exact HO_25.out) hg (.inl rfl)); have n3_ := Aside0.mk ((by rw [hw]; exact below_set (HB.out) GB19.out : Below w.heap.size w w22)); clear HO_8; clear HO_9; clear HO_25; clear HB; have HO_8 := n0_; have HO_9 := n1_; have HO_25 := n2_; have HB := n3_; clear n0_ n1_ n2_ n3_; clear hg hw hp_))
            go_roundg k1
            case measure => have := HK1.out; omega
            case rel => exact ⟨(y203), (wrap64 (x27_1 + 1)), (by first | rfl | (simp; done) | (simp [*]; done)), H', ⟨by have := HK1.out; omega⟩, ⟨by (with_reducible repeat (first | apply Kd.R_alloc | apply Kd.R_drewN | apply Kd.R_drew)); exact Kd.R_mono HO_8.out (fun _ hk => ⟨hk.2, hk.1⟩)⟩, ⟨by (with_reducible repeat (first | apply Kd.R_alloc | apply Kd.R_drewN | apply Kd.R_drew)); exact HO_9.out⟩, ⟨by (with_reducible repeat (first | apply Kd.R_alloc | apply Kd.R_drewN | apply Kd.R_drew)); exact HO_25.out⟩, ⟨by repeat (first | (with_reducible first | exact HB.out | apply below_alloc | apply pw_below_drewN | apply below_drew1) | exact HB.out)⟩⟩
           ·rw [if_neg c18] at H
            exact absurd H (by simp)
          ·rw [if_neg c17] at H
           exact absurd H (by simp)
         ·rw [if_neg c16] at H
          exact absurd H (by simp)
        ·rw [if_neg c15] at H
         exact absurd H (by simp)
       ·rw [if_neg c14] at H
        exact absurd H (by simp)
      ·rw [if_neg c13] at H
       have c13b0 : decide (x27_1 < (t191.length : Int)) = false := decide_eq_false c13
       clear c13
       simp only [Option.some.injEq, Prod.mk.injEq] at H
       obtain ⟨rfl, rfl⟩ := H
       go_wp2
       go_ret2
       exact ⟨_, by first | rfl | (simp [errW_none, errW_some] <;> rfl) | (simp [*, errW_none, errW_some] <;> rfl), by (with_reducible repeat (first | apply Kd.R_alloc | apply Kd.R_drewN | apply Kd.R_drew)); exact Kd.R_mono HO_9.out (fun _ hk => trivial), by repeat (first | (with_reducible first | exact HB.out | apply below_alloc | apply pw_below_drewN | apply below_drew1) | exact HB.out)⟩
   ·rw [if_neg c7] at H
    exact absurd H (by simp)
  ·rw [if_neg c6] at H
   exact absurd H (by simp)
 ·rw [if_neg c4] at H
  have c4b0 : (t192 == 0) = false := beq_eq_false_iff_ne.mpr c4
  have c4b1 : (t192 != 0) = true := bne_iff_ne.mpr c4
  simp only [Option.some.injEq, Prod.mk.injEq] at H
  obtain ⟨rfl, rfl⟩ := H
  go_enter Try.func27, Try.ntmps27
  go_wp2_with (first | ((with_reducible refine gate_callee (f := 24) rfl ?_); refine goesL_ (some 15) rfl rfl Try.func24 (by kernel_rfl) rfl #[.slice A0 l0.length c0, .int .i64 a1] rfl (by (try simp only [List.map_toArray, List.map_cons, List.map_nil]); first | done | rfl | (simp only [tb_wrap8]; done) | (simp only [tb_wrap8]; rfl) | (simp only [List.length_drop, List.length_take]; rfl)) ?_; (with_reducible refine (culletref15_Locator.calls k _ _ l0 a1 t191 t192 _ ?side1 ?side2 A3.out).mono ?_); (case side1 => repeat (first | exact HR0.out | (with_reducible refine Kd.C_alloc ?_ _) | (with_reducible refine Kd.C_drewN ?_ _) | (with_reducible refine Kd.C_drew ?_))); (case side2 => exact HC0.out); rintro e w23 ⟨v193, rfl, ho0, hb⟩; refine ⟨_, rfl, ?_⟩; have n0_ := Aside0.mk (Kd.R_lower ho0 (below_size (by repeat (first | (with_reducible first | exact HB.out | apply below_alloc | apply pw_below_drewN | apply below_drew1) | exact HB.out)))); have n1_ := Aside0.mk (below_step (by repeat (first | (with_reducible first | exact HB.out | apply below_alloc | apply pw_below_drewN | apply below_drew1) | exact HB.out)) hb); clear HB; have HO194 := n0_; have HB := n1_; clear n0_ n1_; (try clear hb); (try clear hb2); (try clear hk); (try clear hi); (try clear ho0)))
  go_ret2
  exact ⟨_, by first | rfl | (simp [errW_none, errW_some] <;> rfl) | (simp [*, errW_none, errW_some] <;> rfl), by first | exact Kd.R_nil _ _ _ _ _ | exact Kd.N_nil _ _ _ _ _ | exact Kd.V_nil _ _ _ _ _ | exact Kd.Q_nil _ _ _ _ _ | exact Kd.S_nil _ _ _ _ _, by repeat (first | (with_reducible first | exact HB.out | apply below_alloc | apply pw_below_drewN | apply below_drew1) | exact HB.out)⟩

end Go.Proofs.Ytklkcenffajfeaa.Q
