import Derived.Test.YtkdoilmfchlpdaaVx0
-- Printed for this claim by mp.py, a program of its prover, through the kit's print. Lean checks it.
namespace Go.Proofs.Ytkdoilmfchlpdaa.V
open Go.RowKit Go.Proofs.YtkdoilmfchlpdaaW.PrintWords Go.Proofs.YtkdoilmfchlpdaaW.PrintLast Go.Proofs.YtkdoilmfchlpdaaW.PrintMore Go.Proofs.Ytkdoilmfchlpdaa.A Go.Proofs.Ytkdoilmfchlpdaa.B
attribute [local go_sem] max2_int min2_int max_two min_two max_three min_three max_four min_four   -- for this text's walks alone
set_option linter.unusedVariables false
set_option linter.unusedSimpArgs false

/-! ### culletlaw11_GenerValues: function 3 -/
mutual
def culletlaw11_GenerValues.j0 : Nat → List Int → Int → Bool → Option (Bool)
 | 0, _, _, _ => none
 | k + 1, x0, x1, x20 => if x20 = true then (some true) else ((culletlaw11_into.f x1 1 (mn (wrap64 (256 - (x0.length : Int))) 20)).bind fun t102 => ((gener_Parity.f k 0 (x0.length : Int) t102).bind fun bt103 => (if bt103.2 = 0 then (culletlaw11_GenerValues.j1 k x0 t102 (x0.length : Int) bt103.1 ((bt103.1.length : Int) != t102)) else (culletlaw11_GenerValues.j1 k x0 t102 (x0.length : Int) bt103.1 true))))
def culletlaw11_GenerValues.j1 : Nat → List Int → Int → Int → List (List Int) → Bool → Option (Bool)
 | 0, _, _, _, _, _ => none
 | k + 1, x0, x1, x5, x6, x41 => if x41 = true then (some false) else (culletlaw11_GenerValues.l0 k x0 x1 x5 x6 0)
def culletlaw11_GenerValues.l0 : Nat → List Int → Int → Int → List (List Int) → Int → Option (Bool)
 | 0, _, _, _, _, _ => none
 | k + 1, x0, x1, x5, x6, x8 => if x8 < x1 then (if 0 ≤ x8 then (if x8 < (x6.length : Int) then (if ((rd_L1 x6 x8).length : Int) = x5 then (culletlaw11_GenerValues.l1 k x0 x1 x5 x6 x8 0 0) else (some false)) else (none)) else (none)) else (some true)
def culletlaw11_GenerValues.l1 : Nat → List Int → Int → Int → List (List Int) → Int → Int → Int → Option (Bool)
 | 0, _, _, _, _, _, _, _ => none
 | k + 1, x0, x1, x5, x6, x8, x9, x10 => if x10 < x5 then (if 0 ≤ x8 then (if x8 < (x6.length : Int) then (if 0 ≤ x10 then (if x10 < ((rd_L1 x6 x8).length : Int) then ((culletlaw11_value.f k x0 ((x10) % 256)).bind fun t110 => ((gf8_Mul.f k (rd (rd_L1 x6 x8) x10) t110).bind fun t111 => (culletlaw11_GenerValues.l1 k x0 x1 x5 x6 x8 (Go.bits .xor .u8 x9 t111) (wrap64 (x10 + 1))))) else (none)) else (none)) else (none)) else (none)) else ((culletlaw11_value.f k x0 ((wrap64 (x5 + x8)) % 256)).bind fun t112 => (if x9 = t112 then (culletlaw11_GenerValues.l0 k x0 x1 x5 x6 (wrap64 (x8 + 1))) else (some false)))
end
def culletlaw11_GenerValues.f (k : Nat) (l0 : List Int) (a1 : Int) : Option (Bool) := (culletlaw11_awake.f k).bind fun t101 => (if t101 = true then (if (l0.length : Int) < 1 then (culletlaw11_GenerValues.j0 k l0 a1 true) else (culletlaw11_GenerValues.j0 k l0 a1 (decide ((l0.length : Int) > 200)))) else (some false))
theorem culletlaw11_GenerValues.mono_l : ∀ k, (∀ y0 y1 y2, LeO (culletlaw11_GenerValues.j0 k y0 y1 y2) (culletlaw11_GenerValues.j0 (k + 1) y0 y1 y2)) ∧ (∀ y0 y1 y2 y3 y4, LeO (culletlaw11_GenerValues.j1 k y0 y1 y2 y3 y4) (culletlaw11_GenerValues.j1 (k + 1) y0 y1 y2 y3 y4)) ∧ (∀ y0 y1 y2 y3 y4, LeO (culletlaw11_GenerValues.l0 k y0 y1 y2 y3 y4) (culletlaw11_GenerValues.l0 (k + 1) y0 y1 y2 y3 y4)) ∧ (∀ y0 y1 y2 y3 y4 y5 y6, LeO (culletlaw11_GenerValues.l1 k y0 y1 y2 y3 y4 y5 y6) (culletlaw11_GenerValues.l1 (k + 1) y0 y1 y2 y3 y4 y5 y6))
 | 0 => ⟨fun _ _ _ r h => by simp [culletlaw11_GenerValues.j0] at h, fun _ _ _ _ _ r h => by simp [culletlaw11_GenerValues.j1] at h, fun _ _ _ _ _ r h => by simp [culletlaw11_GenerValues.l0] at h, fun _ _ _ _ _ _ _ r h => by simp [culletlaw11_GenerValues.l1] at h⟩
 | k + 1 => by
  obtain ⟨ih0, ih1, ih2, ih3⟩ := culletlaw11_GenerValues.mono_l k
  refine ⟨?_, ?_, ?_, ?_⟩
  ·intro y0 y1 y2
   unfold culletlaw11_GenerValues.j0
   repeat' first
   | (with_reducible exact ih0 _ _ _)
   | (with_reducible exact ih1 _ _ _ _ _)
   | (with_reducible exact ih2 _ _ _ _ _)
   | (with_reducible exact ih3 _ _ _ _ _ _ _)
   | (with_reducible exact culletlaw11_awake.mono _)
   | (with_reducible exact culletlaw11_value.mono _ _ _)
   | (with_reducible exact gener_Parity.mono _ _ _ _)
   | (with_reducible exact gf8_Mul.mono _ _ _)
   | (with_reducible exact LeO.refl _)
   | (with_reducible exact LeO.none _)
   | (with_reducible refine LeO.ite ?_ ?_)
   | (with_reducible refine LeO.bind ?_ (fun _ => ?_))
   | exact ih0 _ _ _
   | exact ih1 _ _ _ _ _
   | exact ih2 _ _ _ _ _
   | exact ih3 _ _ _ _ _ _ _
   | exact culletlaw11_awake.mono _
   | exact culletlaw11_value.mono _ _ _
   | exact gener_Parity.mono _ _ _ _
   | exact gf8_Mul.mono _ _ _
   | exact LeO.none _
   | refine LeO.ite ?_ ?_
   | refine LeO.bind ?_ (fun _ => ?_)
  ·intro y0 y1 y2 y3 y4
   unfold culletlaw11_GenerValues.j1
   repeat' first
   | (with_reducible exact ih0 _ _ _)
   | (with_reducible exact ih1 _ _ _ _ _)
   | (with_reducible exact ih2 _ _ _ _ _)
   | (with_reducible exact ih3 _ _ _ _ _ _ _)
   | (with_reducible exact culletlaw11_awake.mono _)
   | (with_reducible exact culletlaw11_value.mono _ _ _)
   | (with_reducible exact gener_Parity.mono _ _ _ _)
   | (with_reducible exact gf8_Mul.mono _ _ _)
   | (with_reducible exact LeO.refl _)
   | (with_reducible exact LeO.none _)
   | (with_reducible refine LeO.ite ?_ ?_)
   | (with_reducible refine LeO.bind ?_ (fun _ => ?_))
   | exact ih0 _ _ _
   | exact ih1 _ _ _ _ _
   | exact ih2 _ _ _ _ _
   | exact ih3 _ _ _ _ _ _ _
   | exact culletlaw11_awake.mono _
   | exact culletlaw11_value.mono _ _ _
   | exact gener_Parity.mono _ _ _ _
   | exact gf8_Mul.mono _ _ _
   | exact LeO.none _
   | refine LeO.ite ?_ ?_
   | refine LeO.bind ?_ (fun _ => ?_)
  ·intro y0 y1 y2 y3 y4
   unfold culletlaw11_GenerValues.l0
   repeat' first
   | (with_reducible exact ih0 _ _ _)
   | (with_reducible exact ih1 _ _ _ _ _)
   | (with_reducible exact ih2 _ _ _ _ _)
   | (with_reducible exact ih3 _ _ _ _ _ _ _)
   | (with_reducible exact culletlaw11_awake.mono _)
   | (with_reducible exact culletlaw11_value.mono _ _ _)
   | (with_reducible exact gener_Parity.mono _ _ _ _)
   | (with_reducible exact gf8_Mul.mono _ _ _)
   | (with_reducible exact LeO.refl _)
   | (with_reducible exact LeO.none _)
   | (with_reducible refine LeO.ite ?_ ?_)
   | (with_reducible refine LeO.bind ?_ (fun _ => ?_))
   | exact ih0 _ _ _
   | exact ih1 _ _ _ _ _
   | exact ih2 _ _ _ _ _
   | exact ih3 _ _ _ _ _ _ _
   | exact culletlaw11_awake.mono _
   | exact culletlaw11_value.mono _ _ _
   | exact gener_Parity.mono _ _ _ _
   | exact gf8_Mul.mono _ _ _
   | exact LeO.none _
   | refine LeO.ite ?_ ?_
   | refine LeO.bind ?_ (fun _ => ?_)
  ·intro y0 y1 y2 y3 y4 y5 y6
   unfold culletlaw11_GenerValues.l1
   repeat' first
   | (with_reducible exact ih0 _ _ _)
   | (with_reducible exact ih1 _ _ _ _ _)
   | (with_reducible exact ih2 _ _ _ _ _)
   | (with_reducible exact ih3 _ _ _ _ _ _ _)
   | (with_reducible exact culletlaw11_awake.mono _)
   | (with_reducible exact culletlaw11_value.mono _ _ _)
   | (with_reducible exact gener_Parity.mono _ _ _ _)
   | (with_reducible exact gf8_Mul.mono _ _ _)
   | (with_reducible exact LeO.refl _)
   | (with_reducible exact LeO.none _)
   | (with_reducible refine LeO.ite ?_ ?_)
   | (with_reducible refine LeO.bind ?_ (fun _ => ?_))
   | exact ih0 _ _ _
   | exact ih1 _ _ _ _ _
   | exact ih2 _ _ _ _ _
   | exact ih3 _ _ _ _ _ _ _
   | exact culletlaw11_awake.mono _
   | exact culletlaw11_value.mono _ _ _
   | exact gener_Parity.mono _ _ _ _
   | exact gf8_Mul.mono _ _ _
   | exact LeO.none _
   | refine LeO.ite ?_ ?_
   | refine LeO.bind ?_ (fun _ => ?_)
theorem culletlaw11_GenerValues.mono : ∀ a0 a1 k, LeO (culletlaw11_GenerValues.f k a0 a1) (culletlaw11_GenerValues.f (k + 1) a0 a1) := by
 intro a0 a1 k
 obtain ⟨ih0, ih1, ih2, ih3⟩ := culletlaw11_GenerValues.mono_l k
 unfold culletlaw11_GenerValues.f
 repeat' first
   | (with_reducible exact ih0 _ _ _)
   | (with_reducible exact ih1 _ _ _ _ _)
   | (with_reducible exact ih2 _ _ _ _ _)
   | (with_reducible exact ih3 _ _ _ _ _ _ _)
   | (with_reducible exact culletlaw11_awake.mono _)
   | (with_reducible exact culletlaw11_value.mono _ _ _)
   | (with_reducible exact gener_Parity.mono _ _ _ _)
   | (with_reducible exact gf8_Mul.mono _ _ _)
   | (with_reducible exact LeO.refl _)
   | (with_reducible exact LeO.none _)
   | (with_reducible refine LeO.ite ?_ ?_)
   | (with_reducible refine LeO.bind ?_ (fun _ => ?_))
   | exact ih0 _ _ _
   | exact ih1 _ _ _ _ _
   | exact ih2 _ _ _ _ _
   | exact ih3 _ _ _ _ _ _ _
   | exact culletlaw11_awake.mono _
   | exact culletlaw11_value.mono _ _ _
   | exact gener_Parity.mono _ _ _ _
   | exact gf8_Mul.mono _ _ _
   | exact LeO.none _
   | refine LeO.ite ?_ ?_
   | refine LeO.bind ?_ (fun _ => ?_)
set_option maxHeartbeats 8000000 in
set_option maxRecDepth 100000 in
theorem culletlaw11_GenerValues.calls (k : Nat) (A0 : Option Addr) (c0 : Nat) (l0 : List Int) (a1 : Int) (r : Bool) (w : World) (hr0 : Kd.C (Kd.int .u8) w A0 l0.length l0) (hc0 : l0.length ≤ c0) (h : culletlaw11_GenerValues.f k l0 a1 = some r) :
  Calls Try.prog 3 #[.slice A0 l0.length c0, .int .i64 a1] w fun e w' => e = .returned (.bool r) ∧ Below w.heap.size w w' := by
 have HR0 := Aside0.mk hr0
 have HC0 := Aside0.mk hc0
 clear hr0 hc0
 have HB := Aside0.mk (Below.refl w.heap.size w)
 have H : ((culletlaw11_awake.f k).bind fun t101 => (if t101 = true then (if (l0.length : Int) < 1 then (culletlaw11_GenerValues.j0 k l0 a1 true) else (culletlaw11_GenerValues.j0 k l0 a1 (decide ((l0.length : Int) > 200)))) else (some false))) = some r := h
 clear h
 replace H := Option.bind_eq_some_iff.mp H
 obtain ⟨t101, A30, H⟩ := H
 replace H : (if t101 = true then (if (l0.length : Int) < 1 then (culletlaw11_GenerValues.j0 k l0 a1 true) else (culletlaw11_GenerValues.j0 k l0 a1 (decide ((l0.length : Int) > 200)))) else (some false)) = some r := H
 have A3 := Aside0.mk A30
 clear A30
 by_cases c4 : t101 = true
 ·subst c4
  have H1 : (if (l0.length : Int) < 1 then (culletlaw11_GenerValues.j0 k l0 a1 true) else (culletlaw11_GenerValues.j0 k l0 a1 (decide ((l0.length : Int) > 200)))) = some r := by rw [if_pos rfl] at H; exact H
  clear H
  have H := H1
  clear H1
  have HC5 := Aside0.mk H
  clear H
  go_enter Try.func3, Try.ntmps3
  go_upto_region 3 with (first | (go_at_call 15; (with_reducible refine (culletlaw11_awake.calls k  true _ A3.out).mono ?_); rintro e w6 ⟨rfl, hb⟩; have n0_ := Aside0.mk (below_step (by repeat (first | (with_reducible first | exact HB.out | apply below_alloc | apply pw_below_drewN | apply below_drew1) | exact HB.out)) hb); clear HB; have HB := n0_; clear n0_; (try clear hb); (try clear hb2); (try clear hk); (try clear hi)))
  repeat (go_quiet (first | (go_at_call 15; (with_reducible refine (culletlaw11_awake.calls k  true _ A3.out).mono ?_); rintro e w6 ⟨rfl, hb⟩; have n0_ := Aside0.mk (below_step (by repeat (first | (with_reducible first | exact HB.out | apply below_alloc | apply pw_below_drewN | apply below_drew1) | exact HB.out)) hb); clear HB; have HB := n0_; clear n0_; (try clear hb); (try clear hb2); (try clear hk); (try clear hi))); go_upto_region 3 with (first | (go_at_call 15; (with_reducible refine (culletlaw11_awake.calls k  true _ A3.out).mono ?_); rintro e w6 ⟨rfl, hb⟩; have n0_ := Aside0.mk (below_step (by repeat (first | (with_reducible first | exact HB.out | apply below_alloc | apply pw_below_drewN | apply below_drew1) | exact HB.out)) hb); clear HB; have HB := n0_; clear n0_; (try clear hb); (try clear hb2); (try clear hk); (try clear hi))))
  (try simp only [Act.put, List.setIfInBounds_toArray, List.set_cons_zero, List.set_cons_succ])
  go_cut [20] (fun v20 wc => ∃ (kq : Nat) (x20_4 : Bool), v20 = .bool x20_4 ∧ Aside0 (culletlaw11_GenerValues.j0 kq l0 a1 x20_4 = some r) ∧ Aside0 (kq ≤ k) ∧ Aside0 (Below w.heap.size w wc))
  case first =>
   have H := HC5.out
   clear HC5
   by_cases c7 : (l0.length : Int) < 1
   ·rw [if_pos c7] at H
    have c7b0 : decide ((l0.length : Int) < 1) = true := decide_eq_true c7
    have c7b1 : decide (l0.length < 1) = true := decide_eq_true (by omega)
    clear c7
    (first | rw [c7b0] | (simp only [i64_w, i32_w]; rw [c7b0]) | skip)
    have H' := Aside0.mk H
    clear H
    go_wp2
    repeat (go_quiet (fail); try go_wp2)
    go_meet
    case rel => exact ⟨_, (true), (by first | rfl | (simp; done) | (simp [*]; done)), H', ⟨by first | omega | exact Nat.le_refl _⟩, ⟨by repeat (first | (with_reducible first | exact HB.out | apply below_alloc | apply pw_below_drewN | apply below_drew1) | exact HB.out)⟩⟩
   ·rw [if_neg c7] at H
    have c7b0 : decide ((l0.length : Int) < 1) = false := decide_eq_false c7
    have c7b1 : decide (l0.length < 1) = false := decide_eq_false (by omega)
    clear c7
    (first | rw [c7b0] | (simp only [i64_w, i32_w]; rw [c7b0]) | skip)
    have H' := Aside0.mk H
    clear H
    go_wp2
    repeat (go_quiet (fail); try go_wp2)
    go_meet
    case rel => exact ⟨_, (decide ((l0.length : Int) > 200)), (by first | rfl | (simp; done) | (simp [*]; done)), H', ⟨by first | omega | exact Nat.le_refl _⟩, ⟨by repeat (first | (with_reducible first | exact HB.out | apply below_alloc | apply pw_below_drewN | apply below_drew1) | exact HB.out)⟩⟩
  case rest =>
   clear HC5
   try clear p2
   try clear c3
   try clear c4
   try clear c7
   try clear c7b0
   try clear c7b1
   obtain ⟨kq, x20_4, rfl, HA, HJ4, HB⟩ := hcut
   cases kq with
   | zero => exact absurd HA.out (by simp [culletlaw11_GenerValues.j0])
   | succ kj4 =>
    have H := HA.out
    clear HA
    simp only [culletlaw11_GenerValues.j0] at H
    by_cases c8 : x20_4 = true
    ·subst c8
     have H1 : (some true) = some r := by rw [if_pos rfl] at H; exact H
     clear H
     have H := H1
     clear H1
     obtain rfl := Option.some.inj H
     go_wp2
     repeat (go_quiet (fail); try go_wp2)
     go_ret
     exact ⟨by first | rfl | (simp [errW_none, errW_some] <;> rfl) | (simp [*, errW_none, errW_some] <;> rfl), by repeat (first | (with_reducible first | exact HB.out | apply below_alloc | apply pw_below_drewN | apply below_drew1) | exact HB.out)⟩
    ·replace c8 := Bool.eq_false_iff.mpr c8
     subst c8
     have H1 : ((culletlaw11_into.f a1 1 (mn (wrap64 (256 - (l0.length : Int))) 20)).bind fun t102 => ((gener_Parity.f kj4 0 (l0.length : Int) t102).bind fun bt103 => (if bt103.2 = 0 then (culletlaw11_GenerValues.j1 kj4 l0 t102 (l0.length : Int) bt103.1 ((bt103.1.length : Int) != t102)) else (culletlaw11_GenerValues.j1 kj4 l0 t102 (l0.length : Int) bt103.1 true)))) = some r := by rw [if_neg (show ¬ (false = true) by decide)] at H; exact H
     clear H
     have H := H1
     clear H1
     obtain ⟨ji9, hji9⟩ : ∃ j_ : Int, (mn (wrap64 (256 - (l0.length : Int))) 20) = j_ := ⟨_, rfl⟩
     replace H : ((culletlaw11_into.f a1 1 (ji9)).bind fun t102 => ((gener_Parity.f kj4 0 (l0.length : Int) t102).bind fun bt103 => (if bt103.2 = 0 then (culletlaw11_GenerValues.j1 kj4 l0 t102 (l0.length : Int) bt103.1 ((bt103.1.length : Int) != t102)) else (culletlaw11_GenerValues.j1 kj4 l0 t102 (l0.length : Int) bt103.1 true)))) = some r := by first | (rw [hji9] at H; exact H) | (simp only [hji9] at H ⊢; exact H)
     have hji9_ : (if 20 < (wrap64 (256 - (l0.length : Int))) then 20 else (wrap64 (256 - (l0.length : Int)))) = ji9 := hji9
     replace H := Option.bind_eq_some_iff.mp H
     obtain ⟨t102, A100, H⟩ := H
     replace H : ((gener_Parity.f kj4 0 (l0.length : Int) t102).bind fun bt103 => (if bt103.2 = 0 then (culletlaw11_GenerValues.j1 kj4 l0 t102 (l0.length : Int) bt103.1 ((bt103.1.length : Int) != t102)) else (culletlaw11_GenerValues.j1 kj4 l0 t102 (l0.length : Int) bt103.1 true))) = some r := H
     have A10 := Aside0.mk A100
     clear A100
     replace H := Option.bind_eq_some_iff.mp H
     obtain ⟨⟨t103, t104⟩, A110, H⟩ := H
     replace H : (if t104 = 0 then (culletlaw11_GenerValues.j1 kj4 l0 t102 (l0.length : Int) t103 ((t103.length : Int) != t102)) else (culletlaw11_GenerValues.j1 kj4 l0 t102 (l0.length : Int) t103 true)) = some r := H
     have A11 := Aside0.mk A110
     clear A110
     have HC12 := Aside0.mk H
     clear H
     go_upto_region 8 with (first | (go_at_call 16; (with_reducible refine (culletlaw11_into.calls a1 1 ji9 t102 _ A10.out).mono ?_); rintro e w' ⟨rfl, ⟨nd, rfl⟩⟩; (try first | exact ⟨rfl, _, World.drewN_drewN _ _ _⟩ | exact ⟨rfl, _, Eq.trans (World.drewN_drewN _ _ _) (congrArg (World.drewN _) (Nat.add_assoc _ _ _))⟩)) | (go_at_call 17; (with_reducible refine (gener_Parity.calls kj4 0 (l0.length : Int) t102 t103 t104 _ A11.out).mono ?_); rintro e w13 ⟨v105, rfl, ho0, hb⟩; have n0_ := Aside0.mk (Kd.Q_lower ho0 (below_size (by repeat (first | (with_reducible first | exact HB.out | apply below_alloc | apply pw_below_drewN | apply below_drew1) | exact HB.out)))); have n1_ := Aside0.mk (below_step (by repeat (first | (with_reducible first | exact HB.out | apply below_alloc | apply pw_below_drewN | apply below_drew1) | exact HB.out)) hb); clear HB; have HO106 := n0_; have HB := n1_; clear n0_ n1_; (try clear hb); (try clear hb2); (try clear hk); (try clear hi); (try clear ho0)))
     repeat (go_quiet (first | (go_at_call 16; (with_reducible refine (culletlaw11_into.calls a1 1 ji9 t102 _ A10.out).mono ?_); rintro e w' ⟨rfl, ⟨nd, rfl⟩⟩; (try first | exact ⟨rfl, _, World.drewN_drewN _ _ _⟩ | exact ⟨rfl, _, Eq.trans (World.drewN_drewN _ _ _) (congrArg (World.drewN _) (Nat.add_assoc _ _ _))⟩)) | (go_at_call 17; (with_reducible refine (gener_Parity.calls kj4 0 (l0.length : Int) t102 t103 t104 _ A11.out).mono ?_); rintro e w13 ⟨v105, rfl, ho0, hb⟩; have n0_ := Aside0.mk (Kd.Q_lower ho0 (below_size (by repeat (first | (with_reducible first | exact HB.out | apply below_alloc | apply pw_below_drewN | apply below_drew1) | exact HB.out)))); have n1_ := Aside0.mk (below_step (by repeat (first | (with_reducible first | exact HB.out | apply below_alloc | apply pw_below_drewN | apply below_drew1) | exact HB.out)) hb); clear HB; have HO106 := n0_; have HB := n1_; clear n0_ n1_; (try clear hb); (try clear hb2); (try clear hk); (try clear hi); (try clear ho0))); go_upto_region 8 with (first | (go_at_call 16; (with_reducible refine (culletlaw11_into.calls a1 1 ji9 t102 _ A10.out).mono ?_); rintro e w' ⟨rfl, ⟨nd, rfl⟩⟩; (try first | exact ⟨rfl, _, World.drewN_drewN _ _ _⟩ | exact ⟨rfl, _, Eq.trans (World.drewN_drewN _ _ _) (congrArg (World.drewN _) (Nat.add_assoc _ _ _))⟩)) | (go_at_call 17; (with_reducible refine (gener_Parity.calls kj4 0 (l0.length : Int) t102 t103 t104 _ A11.out).mono ?_); rintro e w13 ⟨v105, rfl, ho0, hb⟩; have n0_ := Aside0.mk (Kd.Q_lower ho0 (below_size (by repeat (first | (with_reducible first | exact HB.out | apply below_alloc | apply pw_below_drewN | apply below_drew1) | exact HB.out)))); have n1_ := Aside0.mk (below_step (by repeat (first | (with_reducible first | exact HB.out | apply below_alloc | apply pw_below_drewN | apply below_drew1) | exact HB.out)) hb); clear HB; have HO106 := n0_; have HB := n1_; clear n0_ n1_; (try clear hb); (try clear hb2); (try clear hk); (try clear hi); (try clear ho0))))
     (try simp only [Act.put, List.setIfInBounds_toArray, List.set_cons_zero, List.set_cons_succ])
     go_cut [41] (fun v41 wc => ∃ (kq : Nat) (x41_11 : Bool), v41 = .bool x41_11 ∧ Aside0 (culletlaw11_GenerValues.j1 kq l0 t102 (l0.length : Int) t103 x41_11 = some r) ∧ Aside0 (kq ≤ kj4) ∧ Aside0 (Kd.Q (Kd.slice 5 (Kd.int .u8)) 22 wc w.heap.size (fun _ => True) v105 t103) ∧ Aside0 (Below w.heap.size w wc))
     case first =>
      have H := HC12.out
      clear HC12
      by_cases c14 : t104 = 0
      ·rw [if_pos c14] at H
       have c14b0 : (t104 == 0) = true := beq_iff_eq.mpr c14
       have c14b1 : (t104 != 0) = false := bne_eq_false_iff_eq.mpr c14
       clear c14
       (first | rw [c14b0] | (simp only [i64_w, i32_w]; rw [c14b0]) | skip)
       have H' := Aside0.mk H
       clear H
       obtain ⟨Ao15, co15, eo15, _⟩ := Kd.Q_slice HO106.out
       subst eo15
       go_wp2
       repeat (go_quiet (fail); try go_wp2)
       go_meet
       case rel => exact ⟨_, (((t103.length : Int) != t102)), (by first | rfl | (simp; done) | (simp [*]; done)), H', ⟨by have := HJ4.out; first | omega | exact Nat.le_refl _⟩, ⟨by (with_reducible repeat (first | apply Kd.Q_alloc | apply Kd.Q_drewN | apply Kd.Q_drew)); exact HO106.out⟩, ⟨by repeat (first | (with_reducible first | exact HB.out | apply below_alloc | apply pw_below_drewN | apply below_drew1) | exact HB.out)⟩⟩
      ·rw [if_neg c14] at H
       have c14b0 : (t104 == 0) = false := beq_eq_false_iff_ne.mpr c14
       have c14b1 : (t104 != 0) = true := bne_iff_ne.mpr c14
       (first | rw [c14b0] | (simp only [i64_w, i32_w]; rw [c14b0]) | skip)
       have H' := Aside0.mk H
       clear H
       go_wp2
       repeat (go_quiet (fail); try go_wp2)
       go_meet
       case rel => exact ⟨_, (true), (by first | rfl | (simp; done) | (simp [*]; done)), H', ⟨by have := HJ4.out; first | omega | exact Nat.le_refl _⟩, ⟨by (with_reducible repeat (first | apply Kd.Q_alloc | apply Kd.Q_drewN | apply Kd.Q_drew)); exact HO106.out⟩, ⟨by repeat (first | (with_reducible first | exact HB.out | apply below_alloc | apply pw_below_drewN | apply below_drew1) | exact HB.out)⟩⟩
     case rest =>
      clear HC12
      try clear c1
      try clear p2
      try clear c3
      try clear c4
      try clear p6
      try clear c7
      try clear c7b0
      try clear c7b1
      try clear c8
      try clear c14
      try clear c14b0
      try clear c14b1
      try clear p2
      obtain ⟨kq, x41_11, rfl, HA, HJ11, HO_6, HB⟩ := hcut
      cases kq with
      | zero => exact absurd HA.out (by simp [culletlaw11_GenerValues.j1])
      | succ kj11 =>
       have H := HA.out
       clear HA
       simp only [culletlaw11_GenerValues.j1] at H
       by_cases c16 : x41_11 = true
       ·subst c16
        have H1 : (some false) = some r := by rw [if_pos rfl] at H; exact H
        clear H
        have H := H1
        clear H1
        obtain rfl := Option.some.inj H
        go_wp2
        repeat (go_quiet (fail); try go_wp2)
        go_ret
        exact ⟨by first | rfl | (simp [errW_none, errW_some] <;> rfl) | (simp only [← hji9]; first | rfl | (simp [errW_none, errW_some] <;> rfl)) | (simp [*, errW_none, errW_some] <;> rfl), by repeat (first | (with_reducible first | exact HB.out | apply below_alloc | apply pw_below_drewN | apply below_drew1) | exact HB.out)⟩
       ·replace c16 := Bool.eq_false_iff.mpr c16
        subst c16
        have H1 : (culletlaw11_GenerValues.l0 kj11 l0 t102 (l0.length : Int) t103 0) = some r := by rw [if_neg (show ¬ (false = true) by decide)] at H; exact H
        clear H
        have H := H1
        clear H1
        have H' := Aside0.mk H
        clear H
        go_wp2
        repeat (go_quiet (fail); try go_wp2)
        go_loopg [8] kj11 (fun kq v8 w' => ∃ (x8_3 : Int), v8 = .int .i64 x8_3 ∧ Aside0 (culletlaw11_GenerValues.l0 kq l0 t102 (l0.length : Int) t103 x8_3 = some r) ∧ Aside0 (kq ≤ kj11) ∧ Aside0 (Kd.Q (Kd.slice 5 (Kd.int .u8)) 22 w' w.heap.size (fun _ => True) v105 t103) ∧ Aside0 (Below w.heap.size w w'))
        case atStart => exact ⟨(0), (by first | rfl | (simp; done) | (simp [*]; done)), H', ⟨Nat.le_refl _⟩, ⟨by (with_reducible repeat (first | apply Kd.Q_alloc | apply Kd.Q_drewN | apply Kd.Q_drew)); exact HO_6.out⟩, ⟨by repeat (first | (with_reducible first | exact HB.out | apply below_alloc | apply pw_below_drewN | apply below_drew1) | exact HB.out)⟩⟩
        case round =>
         clear H'
         try clear c1
         try clear p2
         try clear c3
         try clear c4
         try clear p6
         try clear c7
         try clear c7b0
         try clear c7b1
         try clear c8
         try clear c14
         try clear c14b0
         try clear c14b1
         try clear c16
         try clear p2
         try clear p6
         obtain ⟨x8_3, rfl, HA, HK3, HO_6, HB⟩ := hrel
         cases gk with
         | zero => exact absurd HA.out (by simp [culletlaw11_GenerValues.l0])
         | succ k3 =>
          have H := HA.out
          clear HA
          simp only [culletlaw11_GenerValues.l0] at H
          by_cases c17 : x8_3 < t102
          ·rw [if_pos c17] at H
           have c17b0 : decide (x8_3 < t102) = true := decide_eq_true c17
           clear c17
           by_cases c18 : 0 ≤ x8_3
           ·rw [if_pos c18] at H
            have c18b0 : decide (0 ≤ x8_3) = true := decide_eq_true c18
            clear c18
            by_cases c19 : x8_3 < (t103.length : Int)
            ·rw [if_pos c19] at H
             have c19b0 : decide (x8_3 < (t103.length : Int)) = true := decide_eq_true c19
             clear c19
             by_cases c20 : ((rd_L1 t103 x8_3).length : Int) = (l0.length : Int)
             ·rw [if_pos c20] at H
              have c20b0 : (((rd_L1 t103 x8_3).length : Int) == (l0.length : Int)) = true := beq_iff_eq.mpr c20
              have c20b1 : (((rd_L1 t103 x8_3).length : Int) != (l0.length : Int)) = false := bne_eq_false_iff_eq.mpr c20
              have c20b2 : ((rd_L1 t103 x8_3).length == l0.length) = true := by first | simpa using c20 | (simp at c20 ⊢; omega)
              clear c20
              have H' := Aside0.mk H
              clear H
              obtain ⟨Ao21, co21, eo21, _⟩ := Kd.Q_slice HO_6.out
              subst eo21
              have p107 : 0 ≤ (x8_3 : Int) := of_decide_eq_true (by first | (with_reducible assumption) | assumption)
              have q107 : x8_3 < (t103.length : Int) := of_decide_eq_true (by first | (with_reducible assumption) | assumption)
              obtain ⟨ad107, A107_0, c107_0, e107, hx107_0, hl107_0, hi107_0⟩ := at_L1 (Kd.Q_reads' HO_6.out).2.2 x8_3 p107 q107
              cases e107
              have HR107_0 := Aside0.mk hi107_0
              have HC107_0 := Aside0.mk hl107_0
              clear hi107_0 hl107_0
              replace p107 := eq_true p107
              replace q107 := eq_true q107
              go_wp2
              repeat (go_quiet (fail); try go_wp2)
              go_loopg [9, 10] k3 (fun kq v9 v10 w' => ∃ (x9_4 : Int) (x10_4 : Int), v9 = .int .u8 x9_4 ∧ v10 = .int .i64 x10_4 ∧ Aside0 (culletlaw11_GenerValues.l1 kq l0 t102 (l0.length : Int) t103 x8_3 x9_4 x10_4 = some r) ∧ Aside0 (kq ≤ k3) ∧ Aside0 (Kd.Q (Kd.slice 5 (Kd.int .u8)) 22 w' w.heap.size (fun _ => True) (.slice (some ad107) t103.length co21) t103) ∧ Aside0 (Kd.C (Kd.int .u8) w' A107_0 (rd_L1 t103 x8_3).length (rd_L1 t103 x8_3)) ∧ Aside0 (Below w.heap.size w w'))
              case atStart => exact ⟨(0), (0), (by first | rfl | (simp; done) | (simp [*]; done)), (by first | rfl | (simp; done) | (simp [*]; done)), H', ⟨Nat.le_refl _⟩, ⟨by (with_reducible repeat (first | apply Kd.Q_alloc | apply Kd.Q_drewN | apply Kd.Q_drew)); exact HO_6.out⟩, ⟨by repeat (first | (with_reducible exact HR107_0.out) | (with_reducible refine Kd.C_alloc ?_ _) | (with_reducible refine Kd.C_drewN ?_ _) | (with_reducible refine Kd.C_drew ?_) | exact HR107_0.out)⟩, ⟨by repeat (first | (with_reducible first | exact HB.out | apply below_alloc | apply pw_below_drewN | apply below_drew1) | exact HB.out)⟩⟩
              case round =>
               clear H'
               try clear c1
               try clear p1
               try clear q1
               try clear hx1
               try clear c2
               try clear p2
               try clear c3
               try clear c4
               try clear p6
               try clear c7
               try clear c7b0
               try clear c7b1
               try clear c8
               try clear c10
               try clear p10
               try clear q10
               try clear hx10
               try clear c14
               try clear c14b0
               try clear c14b1
               try clear c16
               try clear c17
               try clear c17b0
               try clear c18
               try clear c18b0
               try clear c19
               try clear c19b0
               try clear c20
               try clear c20b0
               try clear c20b1
               try clear c20b2
               try clear hx107_0
               try clear p107
               try clear p2
               try clear p6
               try clear q107
               obtain ⟨x9_4, x10_4, rfl, rfl, HA, HK4, HO_6, HR107_0, HB⟩ := hrel
               cases gk with
               | zero => exact absurd HA.out (by simp [culletlaw11_GenerValues.l1])
               | succ k4 =>
                have H := HA.out
                clear HA
                simp only [culletlaw11_GenerValues.l1] at H
                by_cases c22 : x10_4 < (l0.length : Int)
                ·rw [if_pos c22] at H
                 have c22b0 : decide (x10_4 < (l0.length : Int)) = true := decide_eq_true c22
                 clear c22
                 by_cases c23 : 0 ≤ x8_3
                 ·rw [if_pos c23] at H
                  have c23b0 : decide (0 ≤ x8_3) = true := decide_eq_true c23
                  clear c23
                  by_cases c24 : x8_3 < (t103.length : Int)
                  ·rw [if_pos c24] at H
                   have c24b0 : decide (x8_3 < (t103.length : Int)) = true := decide_eq_true c24
                   clear c24
                   by_cases c25 : 0 ≤ x10_4
                   ·rw [if_pos c25] at H
                    have c25b0 : decide (0 ≤ x10_4) = true := decide_eq_true c25
                    clear c25
                    by_cases c26 : x10_4 < ((rd_L1 t103 x8_3).length : Int)
                    ·rw [if_pos c26] at H
                     have c26b0 : decide (x10_4 < ((rd_L1 t103 x8_3).length : Int)) = true := decide_eq_true c26
                     clear c26
                     replace H := Option.bind_eq_some_iff.mp H
                     obtain ⟨t110, A270, H⟩ := H
                     replace H : ((gf8_Mul.f k4 (rd (rd_L1 t103 x8_3) x10_4) t110).bind fun t111 => (culletlaw11_GenerValues.l1 k4 l0 t102 (l0.length : Int) t103 x8_3 (Go.bits .xor .u8 x9_4 t111) (wrap64 (x10_4 + 1)))) = some r := H
                     have A27 := Aside0.mk A270
                     clear A270
                     replace H := Option.bind_eq_some_iff.mp H
                     obtain ⟨t111, A280, H⟩ := H
                     replace H : (culletlaw11_GenerValues.l1 k4 l0 t102 (l0.length : Int) t103 x8_3 (Go.bits .xor .u8 x9_4 t111) (wrap64 (x10_4 + 1))) = some r := H
                     have A28 := Aside0.mk A280
                     clear A280
                     have H' := Aside0.mk H
                     clear H
                     have p108 : 0 ≤ (x8_3 : Int) := of_decide_eq_true (by first | (with_reducible assumption) | assumption)
                     have q108 : x8_3 < (t103.length : Int) := of_decide_eq_true (by first | (with_reducible assumption) | assumption)
                     obtain ⟨ad108, A108_0, c108_0, e108, hx108_0, hl108_0, hi108_0⟩ := at_L1 (Kd.Q_reads' HO_6.out).2.2 x8_3 p108 q108
                     obtain rfl : ad107 = ad108 := (by injection e108)
                     have HR108_0 := Aside0.mk hi108_0
                     have HC108_0 := Aside0.mk hl108_0
                     clear hi108_0 hl108_0
                     replace p108 := eq_true p108
                     replace q108 := eq_true q108
                     have p109 : 0 ≤ (x10_4 : Int) := of_decide_eq_true (by first | (with_reducible assumption) | assumption)
                     have q109 : x10_4 < ((rd_L1 t103 x8_3).length : Int) := of_decide_eq_true (by first | (with_reducible assumption) | assumption)
                     obtain ⟨ad109, e109, hx109_0⟩ := Kd.at_int (by repeat (first | (with_reducible exact HR108_0.out) | (with_reducible refine Kd.C_alloc ?_ _) | (with_reducible refine Kd.C_drewN ?_ _) | (with_reducible refine Kd.C_drew ?_) | exact HR108_0.out)) x10_4 p109 q109
                     cases e109
                     replace p109 := eq_true p109
                     replace q109 := eq_true q109
                     go_wp2_with (first | (go_at_call 19; (with_reducible refine (culletlaw11_value.calls k4 _ _ l0 ((x10_4) % 256) t110 _ ?side1 ?side2 A27.out).mono ?_); (case side1 => repeat (first | exact (Kd.C_below HR0.out HB.out) | (with_reducible refine Kd.C_alloc ?_ _) | (with_reducible refine Kd.C_drewN ?_ _) | (with_reducible refine Kd.C_drew ?_))); (case side2 => exact HC0.out); rintro e w' ⟨rfl, ⟨nd, rfl⟩⟩; (try first | exact ⟨rfl, _, World.drewN_drewN _ _ _⟩ | exact ⟨rfl, _, Eq.trans (World.drewN_drewN _ _ _) (congrArg (World.drewN _) (Nat.add_assoc _ _ _))⟩)) | (go_at_call 18; (with_reducible refine (gf8_Mul.calls k4 (rd (rd_L1 t103 x8_3) x10_4) t110 t111 _ A28.out).mono ?_); rintro e w' ⟨rfl, ⟨nd, rfl⟩⟩; (try first | exact ⟨rfl, _, World.drewN_drewN _ _ _⟩ | exact ⟨rfl, _, Eq.trans (World.drewN_drewN _ _ _) (congrArg (World.drewN _) (Nat.add_assoc _ _ _))⟩)))
                     repeat (go_quiet (first | (go_at_call 19; (with_reducible refine (culletlaw11_value.calls k4 _ _ l0 ((x10_4) % 256) t110 _ ?side1 ?side2 A27.out).mono ?_); (case side1 => repeat (first | exact (Kd.C_below HR0.out HB.out) | (with_reducible refine Kd.C_alloc ?_ _) | (with_reducible refine Kd.C_drewN ?_ _) | (with_reducible refine Kd.C_drew ?_))); (case side2 => exact HC0.out); rintro e w' ⟨rfl, ⟨nd, rfl⟩⟩; (try first | exact ⟨rfl, _, World.drewN_drewN _ _ _⟩ | exact ⟨rfl, _, Eq.trans (World.drewN_drewN _ _ _) (congrArg (World.drewN _) (Nat.add_assoc _ _ _))⟩)) | (go_at_call 18; (with_reducible refine (gf8_Mul.calls k4 (rd (rd_L1 t103 x8_3) x10_4) t110 t111 _ A28.out).mono ?_); rintro e w' ⟨rfl, ⟨nd, rfl⟩⟩; (try first | exact ⟨rfl, _, World.drewN_drewN _ _ _⟩ | exact ⟨rfl, _, Eq.trans (World.drewN_drewN _ _ _) (congrArg (World.drewN _) (Nat.add_assoc _ _ _))⟩))); try go_wp2_with (first | (go_at_call 19; (with_reducible refine (culletlaw11_value.calls k4 _ _ l0 ((x10_4) % 256) t110 _ ?side1 ?side2 A27.out).mono ?_); (case side1 => repeat (first | exact (Kd.C_below HR0.out HB.out) | (with_reducible refine Kd.C_alloc ?_ _) | (with_reducible refine Kd.C_drewN ?_ _) | (with_reducible refine Kd.C_drew ?_))); (case side2 => exact HC0.out); rintro e w' ⟨rfl, ⟨nd, rfl⟩⟩; (try first | exact ⟨rfl, _, World.drewN_drewN _ _ _⟩ | exact ⟨rfl, _, Eq.trans (World.drewN_drewN _ _ _) (congrArg (World.drewN _) (Nat.add_assoc _ _ _))⟩)) | (go_at_call 18; (with_reducible refine (gf8_Mul.calls k4 (rd (rd_L1 t103 x8_3) x10_4) t110 t111 _ A28.out).mono ?_); rintro e w' ⟨rfl, ⟨nd, rfl⟩⟩; (try first | exact ⟨rfl, _, World.drewN_drewN _ _ _⟩ | exact ⟨rfl, _, Eq.trans (World.drewN_drewN _ _ _) (congrArg (World.drewN _) (Nat.add_assoc _ _ _))⟩))))
                     go_roundg k4
                     case measure => have := HJ4.out; have := HJ11.out; have := HK3.out; have := HK4.out; omega
                     case rel => exact ⟨(Go.bits .xor .u8 x9_4 t111), (wrap64 (x10_4 + 1)), (by first | rfl | (simp; done) | (simp [*]; done)), (by first | rfl | (simp; done) | (simp [*]; done)), H', ⟨by have := HJ4.out; have := HJ11.out; have := HK3.out; have := HK4.out; omega⟩, ⟨by (with_reducible repeat (first | apply Kd.Q_alloc | apply Kd.Q_drewN | apply Kd.Q_drew)); exact HO_6.out⟩, ⟨by repeat (first | (with_reducible exact HR107_0.out) | (with_reducible refine Kd.C_alloc ?_ _) | (with_reducible refine Kd.C_drewN ?_ _) | (with_reducible refine Kd.C_drew ?_) | exact HR107_0.out)⟩, ⟨by repeat (first | (with_reducible first | exact HB.out | apply below_alloc | apply pw_below_drewN | apply below_drew1) | exact HB.out)⟩⟩
                    ·rw [if_neg c26] at H
                     exact absurd H (by simp)
                   ·rw [if_neg c25] at H
                    exact absurd H (by simp)
                  ·rw [if_neg c24] at H
                   exact absurd H (by simp)
                 ·rw [if_neg c23] at H
                  exact absurd H (by simp)
                ·rw [if_neg c22] at H
                 have c22b0 : decide (x10_4 < (l0.length : Int)) = false := decide_eq_false c22
                 clear c22
                 replace H := Option.bind_eq_some_iff.mp H
                 obtain ⟨t112, A290, H⟩ := H
                 replace H : (if x9_4 = t112 then (culletlaw11_GenerValues.l0 k4 l0 t102 (l0.length : Int) t103 (wrap64 (x8_3 + 1))) else (some false)) = some r := H
                 have A29 := Aside0.mk A290
                 clear A290
                 by_cases c30 : x9_4 = t112
                 ·rw [if_pos c30] at H
                  have c30b0 : (x9_4 == t112) = true := beq_iff_eq.mpr c30
                  have c30b1 : (x9_4 != t112) = false := bne_eq_false_iff_eq.mpr c30
                  clear c30
                  have H' := Aside0.mk H
                  clear H
                  go_wp2_with (first | (go_at_call 19; (with_reducible refine (culletlaw11_value.calls k4 _ _ l0 ((wrap64 ((l0.length : Int) + x8_3)) % 256) t112 _ ?side1 ?side2 A29.out).mono ?_); (case side1 => repeat (first | exact (Kd.C_below HR0.out HB.out) | (with_reducible refine Kd.C_alloc ?_ _) | (with_reducible refine Kd.C_drewN ?_ _) | (with_reducible refine Kd.C_drew ?_))); (case side2 => exact HC0.out); rintro e w' ⟨rfl, ⟨nd, rfl⟩⟩; (try first | exact ⟨rfl, _, World.drewN_drewN _ _ _⟩ | exact ⟨rfl, _, Eq.trans (World.drewN_drewN _ _ _) (congrArg (World.drewN _) (Nat.add_assoc _ _ _))⟩)))
                  repeat (go_quiet (first | (go_at_call 19; (with_reducible refine (culletlaw11_value.calls k4 _ _ l0 ((wrap64 ((l0.length : Int) + x8_3)) % 256) t112 _ ?side1 ?side2 A29.out).mono ?_); (case side1 => repeat (first | exact (Kd.C_below HR0.out HB.out) | (with_reducible refine Kd.C_alloc ?_ _) | (with_reducible refine Kd.C_drewN ?_ _) | (with_reducible refine Kd.C_drew ?_))); (case side2 => exact HC0.out); rintro e w' ⟨rfl, ⟨nd, rfl⟩⟩; (try first | exact ⟨rfl, _, World.drewN_drewN _ _ _⟩ | exact ⟨rfl, _, Eq.trans (World.drewN_drewN _ _ _) (congrArg (World.drewN _) (Nat.add_assoc _ _ _))⟩))); try go_wp2_with (first | (go_at_call 19; (with_reducible refine (culletlaw11_value.calls k4 _ _ l0 ((wrap64 ((l0.length : Int) + x8_3)) % 256) t112 _ ?side1 ?side2 A29.out).mono ?_); (case side1 => repeat (first | exact (Kd.C_below HR0.out HB.out) | (with_reducible refine Kd.C_alloc ?_ _) | (with_reducible refine Kd.C_drewN ?_ _) | (with_reducible refine Kd.C_drew ?_))); (case side2 => exact HC0.out); rintro e w' ⟨rfl, ⟨nd, rfl⟩⟩; (try first | exact ⟨rfl, _, World.drewN_drewN _ _ _⟩ | exact ⟨rfl, _, Eq.trans (World.drewN_drewN _ _ _) (congrArg (World.drewN _) (Nat.add_assoc _ _ _))⟩))))
                  go_roundg k4
                  case measure => have := HJ4.out; have := HJ11.out; have := HK3.out; have := HK4.out; omega
                  case rel => exact ⟨(wrap64 (x8_3 + 1)), (by first | rfl | (simp; done) | (simp [*]; done)), H', ⟨by have := HJ4.out; have := HJ11.out; have := HK3.out; have := HK4.out; omega⟩, ⟨by (with_reducible repeat (first | apply Kd.Q_alloc | apply Kd.Q_drewN | apply Kd.Q_drew)); exact HO_6.out⟩, ⟨by repeat (first | (with_reducible first | exact HB.out | apply below_alloc | apply pw_below_drewN | apply below_drew1) | exact HB.out)⟩⟩
                 ·rw [if_neg c30] at H
                  have c30b0 : (x9_4 == t112) = false := beq_eq_false_iff_ne.mpr c30
                  have c30b1 : (x9_4 != t112) = true := bne_iff_ne.mpr c30
                  obtain rfl := Option.some.inj H
                  go_wp2_with (first | (go_at_call 19; (with_reducible refine (culletlaw11_value.calls k4 _ _ l0 ((wrap64 ((l0.length : Int) + x8_3)) % 256) t112 _ ?side1 ?side2 A29.out).mono ?_); (case side1 => repeat (first | exact (Kd.C_below HR0.out HB.out) | (with_reducible refine Kd.C_alloc ?_ _) | (with_reducible refine Kd.C_drewN ?_ _) | (with_reducible refine Kd.C_drew ?_))); (case side2 => exact HC0.out); rintro e w' ⟨rfl, ⟨nd, rfl⟩⟩; (try first | exact ⟨rfl, _, World.drewN_drewN _ _ _⟩ | exact ⟨rfl, _, Eq.trans (World.drewN_drewN _ _ _) (congrArg (World.drewN _) (Nat.add_assoc _ _ _))⟩)))
                  repeat (go_quiet (first | (go_at_call 19; (with_reducible refine (culletlaw11_value.calls k4 _ _ l0 ((wrap64 ((l0.length : Int) + x8_3)) % 256) t112 _ ?side1 ?side2 A29.out).mono ?_); (case side1 => repeat (first | exact (Kd.C_below HR0.out HB.out) | (with_reducible refine Kd.C_alloc ?_ _) | (with_reducible refine Kd.C_drewN ?_ _) | (with_reducible refine Kd.C_drew ?_))); (case side2 => exact HC0.out); rintro e w' ⟨rfl, ⟨nd, rfl⟩⟩; (try first | exact ⟨rfl, _, World.drewN_drewN _ _ _⟩ | exact ⟨rfl, _, Eq.trans (World.drewN_drewN _ _ _) (congrArg (World.drewN _) (Nat.add_assoc _ _ _))⟩))); try go_wp2_with (first | (go_at_call 19; (with_reducible refine (culletlaw11_value.calls k4 _ _ l0 ((wrap64 ((l0.length : Int) + x8_3)) % 256) t112 _ ?side1 ?side2 A29.out).mono ?_); (case side1 => repeat (first | exact (Kd.C_below HR0.out HB.out) | (with_reducible refine Kd.C_alloc ?_ _) | (with_reducible refine Kd.C_drewN ?_ _) | (with_reducible refine Kd.C_drew ?_))); (case side2 => exact HC0.out); rintro e w' ⟨rfl, ⟨nd, rfl⟩⟩; (try first | exact ⟨rfl, _, World.drewN_drewN _ _ _⟩ | exact ⟨rfl, _, Eq.trans (World.drewN_drewN _ _ _) (congrArg (World.drewN _) (Nat.add_assoc _ _ _))⟩))))
                  go_ret
                  exact ⟨by first | rfl | (simp [errW_none, errW_some] <;> rfl) | (simp only [← hji9]; first | rfl | (simp [errW_none, errW_some] <;> rfl)) | (simp [*, errW_none, errW_some] <;> rfl), by repeat (first | (with_reducible first | exact HB.out | apply below_alloc | apply pw_below_drewN | apply below_drew1) | exact HB.out)⟩
             ·rw [if_neg c20] at H
              have c20b0 : (((rd_L1 t103 x8_3).length : Int) == (l0.length : Int)) = false := beq_eq_false_iff_ne.mpr c20
              have c20b1 : (((rd_L1 t103 x8_3).length : Int) != (l0.length : Int)) = true := bne_iff_ne.mpr c20
              have c20b2 : ((rd_L1 t103 x8_3).length == l0.length) = false := by first | simpa using c20 | (simp at c20 ⊢; omega)
              obtain rfl := Option.some.inj H
              obtain ⟨Ao31, co31, eo31, _⟩ := Kd.Q_slice HO_6.out
              subst eo31
              have p107 : 0 ≤ (x8_3 : Int) := of_decide_eq_true (by first | (with_reducible assumption) | assumption)
              have q107 : x8_3 < (t103.length : Int) := of_decide_eq_true (by first | (with_reducible assumption) | assumption)
              obtain ⟨ad107, A107_0, c107_0, e107, hx107_0, hl107_0, hi107_0⟩ := at_L1 (Kd.Q_reads' HO_6.out).2.2 x8_3 p107 q107
              cases e107
              have HR107_0 := Aside0.mk hi107_0
              have HC107_0 := Aside0.mk hl107_0
              clear hi107_0 hl107_0
              replace p107 := eq_true p107
              replace q107 := eq_true q107
              go_wp2
              repeat (go_quiet (fail); try go_wp2)
              go_ret
              exact ⟨by first | rfl | (simp [errW_none, errW_some] <;> rfl) | (simp only [← hji9]; first | rfl | (simp [errW_none, errW_some] <;> rfl)) | (simp [*, errW_none, errW_some] <;> rfl), by repeat (first | (with_reducible first | exact HB.out | apply below_alloc | apply pw_below_drewN | apply below_drew1) | exact HB.out)⟩
            ·rw [if_neg c19] at H
             exact absurd H (by simp)
           ·rw [if_neg c18] at H
            exact absurd H (by simp)
          ·rw [if_neg c17] at H
           have c17b0 : decide (x8_3 < t102) = false := decide_eq_false c17
           clear c17
           obtain rfl := Option.some.inj H
           go_wp2
           repeat (go_quiet (fail); try go_wp2)
           go_ret
           exact ⟨by first | rfl | (simp [errW_none, errW_some] <;> rfl) | (simp only [← hji9]; first | rfl | (simp [errW_none, errW_some] <;> rfl)) | (simp [*, errW_none, errW_some] <;> rfl), by repeat (first | (with_reducible first | exact HB.out | apply below_alloc | apply pw_below_drewN | apply below_drew1) | exact HB.out)⟩
 ·replace c4 := Bool.eq_false_iff.mpr c4
  subst c4
  have H1 : (some false) = some r := by rw [if_neg (show ¬ (false = true) by decide)] at H; exact H
  clear H
  have H := H1
  clear H1
  obtain rfl := Option.some.inj H
  go_enter Try.func3, Try.ntmps3
  go_wp2_with (first | (go_at_call 15; (with_reducible refine (culletlaw11_awake.calls k  false _ A3.out).mono ?_); rintro e w32 ⟨rfl, hb⟩; have n0_ := Aside0.mk (below_step (by repeat (first | (with_reducible first | exact HB.out | apply below_alloc | apply pw_below_drewN | apply below_drew1) | exact HB.out)) hb); clear HB; have HB := n0_; clear n0_; (try clear hb); (try clear hb2); (try clear hk); (try clear hi)))
  repeat (go_quiet (first | (go_at_call 15; (with_reducible refine (culletlaw11_awake.calls k  false _ A3.out).mono ?_); rintro e w32 ⟨rfl, hb⟩; have n0_ := Aside0.mk (below_step (by repeat (first | (with_reducible first | exact HB.out | apply below_alloc | apply pw_below_drewN | apply below_drew1) | exact HB.out)) hb); clear HB; have HB := n0_; clear n0_; (try clear hb); (try clear hb2); (try clear hk); (try clear hi))); try go_wp2_with (first | (go_at_call 15; (with_reducible refine (culletlaw11_awake.calls k  false _ A3.out).mono ?_); rintro e w32 ⟨rfl, hb⟩; have n0_ := Aside0.mk (below_step (by repeat (first | (with_reducible first | exact HB.out | apply below_alloc | apply pw_below_drewN | apply below_drew1) | exact HB.out)) hb); clear HB; have HB := n0_; clear n0_; (try clear hb); (try clear hb2); (try clear hk); (try clear hi))))
  go_ret
  exact ⟨by first | rfl | (simp [errW_none, errW_some] <;> rfl) | (simp [*, errW_none, errW_some] <;> rfl), by repeat (first | (with_reducible first | exact HB.out | apply below_alloc | apply pw_below_drewN | apply below_drew1) | exact HB.out)⟩

/-- THE ONE PURE STATEMENT of culletlaw11_GenerValues: yours. -/
def culletlaw11_GenerValues.Pure : Prop := ∀ (l0 : List Int) (a1 : Int), l0.length ≤ maxLen → l0.length * 1 ≤ 140737488351232 → (∀ x ∈ l0, (Lit.int .u8 x).wf = true) → (Lit.int .i64 a1).wf = true → ∃ k, culletlaw11_GenerValues.f k l0 a1 = some true
theorem culletlaw11_GenerValues.walk (P : culletlaw11_GenerValues.Pure) (a0 : Option Addr) (len0 cap0 : Nat) (z0 : List Int) (a1 : Int) (w : World) (w0 : (a0 = none ∧ len0 = 0 ∧ cap0 = 0 ∧ z0 = []) ∨ ∃ x, a0 = some x ∧ len0 ≤ cap0 ∧ cap0 ≤ maxLen ∧ z0.length = cap0 ∧ (∀ i, i < z0.length → w.cell? (x.add i) = some (.int .u8 (z0.getD i 0))) ∧ ∀ n ∈ z0, (Lit.int .u8 n).wf = true) (y0 : len0 * 1 ≤ 140737488351232) (w1 : (Lit.int .i64 a1).wf = true) :
  Calls Try.prog 3 #[.slice a0 len0 cap0, .int .i64 a1] w fun e w' => e = .returned (.bool true) ∧ Below w.heap.size w w' := by
 obtain ⟨l0, rfl, hr0, hm0, hw0, hc0⟩ := ReadsInt.ofRowC w0
 obtain ⟨k, h⟩ := P l0 a1 hm0 y0 hw0 w1
 refine (culletlaw11_GenerValues.calls k _ _ l0 a1 true w (Kd.C_of_reads (d := (0 : Int)) (h1 := fun _ => rfl) hr0) hc0 h).mono ?_
 rintro e w' ⟨rfl, hd⟩
 exact ⟨rfl, hd⟩

end Go.Proofs.Ytkdoilmfchlpdaa.V
