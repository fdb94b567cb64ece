import Derived.Test.YtkdoilmfchlpdaaQx0
-- Printed for this claim by mp.py, a program of its prover, through the kit's print. Lean checks it.
namespace Go.Proofs.Ytkdoilmfchlpdaa.Q
open Go.RowKit Go.Proofs.YtkdoilmfchlpdaaW.PrintWords Go.Proofs.YtkdoilmfchlpdaaW.PrintLast Go.Proofs.YtkdoilmfchlpdaaW.PrintMore Go.Proofs.Ytkdoilmfchlpdaa.A Go.Proofs.Ytkdoilmfchlpdaa.B
attribute [local go_sem] max2_int min2_int max_two min_two max_three min_three max_four min_four   -- for this text's walks alone
set_option linter.unusedVariables false
set_option linter.unusedSimpArgs false

/-! ### culletlaw11_awake: function 15: told before -/

/-! ### culletlaw11_into: function 16: told before -/

/-! ### gener_Parity: function 17: told before -/

/-! ### gf8_Mul: function 18: told before -/

/-! ### culletlaw11_GenerCauchys: function 4 -/
mutual
def culletlaw11_GenerCauchys.j0 : Nat → Int → Int → List (List Int) → Bool → Option (Bool)
 | 0, _, _, _, _ => none
 | k + 1, x0, x1, x5, x30 => if x30 = true then (some false) else (culletlaw11_GenerCauchys.l0 k x0 x1 x5 0)
def culletlaw11_GenerCauchys.l0 : Nat → Int → Int → List (List Int) → Int → Option (Bool)
 | 0, _, _, _, _ => none
 | k + 1, x0, x1, x5, x7 => if x7 < x1 then (if 0 ≤ x7 then (if x7 < (x5.length : Int) then (if ((rd_L1 x5 x7).length : Int) = x0 then (culletlaw11_GenerCauchys.l1 k x0 x1 x5 x7 0) else (some false)) else (none)) else (none)) else (some true)
def culletlaw11_GenerCauchys.l1 : Nat → Int → Int → List (List Int) → Int → Int → Option (Bool)
 | 0, _, _, _, _, _ => none
 | k + 1, x0, x1, x5, x7, x8 => if x8 < x0 then (if 0 ≤ x7 then (if x7 < (x5.length : Int) then (if 0 ≤ x8 then (if x8 < ((rd_L1 x5 x7).length : Int) then ((gf8_Mul.f k (rd (rd_L1 x5 x7) x8) (Go.bits .xor .u8 ((wrap64 (x0 + x7)) % 256) ((x8) % 256))).bind fun t111 => (if t111 = 1 then (culletlaw11_GenerCauchys.l1 k x0 x1 x5 x7 (wrap64 (x8 + 1))) else (some false))) else (none)) else (none)) else (none)) else (none)) else (culletlaw11_GenerCauchys.l0 k x0 x1 x5 (wrap64 (x7 + 1)))
end
def culletlaw11_GenerCauchys.f (k : Nat) (a0 : Int) (a1 : Int) : Option (Bool) := (culletlaw11_awake.f k).bind fun t101 => (if t101 = true then ((culletlaw11_into.f a0 1 255).bind fun t102 => ((culletlaw11_into.f a1 1 (wrap64 (256 - t102))).bind fun t103 => ((gener_Parity.f k 1 t102 t103).bind fun bt104 => (if bt104.2 = 0 then (culletlaw11_GenerCauchys.j0 k t102 t103 bt104.1 ((bt104.1.length : Int) != t103)) else (culletlaw11_GenerCauchys.j0 k t102 t103 bt104.1 true))))) else (some false))
theorem culletlaw11_GenerCauchys.mono_l : ∀ k, (∀ y0 y1 y2 y3, LeO (culletlaw11_GenerCauchys.j0 k y0 y1 y2 y3) (culletlaw11_GenerCauchys.j0 (k + 1) y0 y1 y2 y3)) ∧ (∀ y0 y1 y2 y3, LeO (culletlaw11_GenerCauchys.l0 k y0 y1 y2 y3) (culletlaw11_GenerCauchys.l0 (k + 1) y0 y1 y2 y3)) ∧ (∀ y0 y1 y2 y3 y4, LeO (culletlaw11_GenerCauchys.l1 k y0 y1 y2 y3 y4) (culletlaw11_GenerCauchys.l1 (k + 1) y0 y1 y2 y3 y4))
 | 0 => ⟨fun _ _ _ _ r h => by simp [culletlaw11_GenerCauchys.j0] at h, fun _ _ _ _ r h => by simp [culletlaw11_GenerCauchys.l0] at h, fun _ _ _ _ _ r h => by simp [culletlaw11_GenerCauchys.l1] at h⟩
 | k + 1 => by
  obtain ⟨ih0, ih1, ih2⟩ := culletlaw11_GenerCauchys.mono_l k
  refine ⟨?_, ?_, ?_⟩
  ·intro y0 y1 y2 y3
   unfold culletlaw11_GenerCauchys.j0
   repeat' first
   | (with_reducible exact ih0 _ _ _ _)
   | (with_reducible exact ih1 _ _ _ _)
   | (with_reducible exact ih2 _ _ _ _ _)
   | (with_reducible exact culletlaw11_awake.mono _)
   | (with_reducible exact gener_Parity.mono _ _ _ _)
   | (with_reducible exact gf8_Mul.mono _ _ _)
   | (with_reducible exact LeO.refl _)
   | (with_reducible exact LeO.none _)
   | (with_reducible refine LeO.ite ?_ ?_)
   | (with_reducible refine LeO.bind ?_ (fun _ => ?_))
   | exact ih0 _ _ _ _
   | exact ih1 _ _ _ _
   | exact ih2 _ _ _ _ _
   | exact culletlaw11_awake.mono _
   | exact gener_Parity.mono _ _ _ _
   | exact gf8_Mul.mono _ _ _
   | exact LeO.none _
   | refine LeO.ite ?_ ?_
   | refine LeO.bind ?_ (fun _ => ?_)
  ·intro y0 y1 y2 y3
   unfold culletlaw11_GenerCauchys.l0
   repeat' first
   | (with_reducible exact ih0 _ _ _ _)
   | (with_reducible exact ih1 _ _ _ _)
   | (with_reducible exact ih2 _ _ _ _ _)
   | (with_reducible exact culletlaw11_awake.mono _)
   | (with_reducible exact gener_Parity.mono _ _ _ _)
   | (with_reducible exact gf8_Mul.mono _ _ _)
   | (with_reducible exact LeO.refl _)
   | (with_reducible exact LeO.none _)
   | (with_reducible refine LeO.ite ?_ ?_)
   | (with_reducible refine LeO.bind ?_ (fun _ => ?_))
   | exact ih0 _ _ _ _
   | exact ih1 _ _ _ _
   | exact ih2 _ _ _ _ _
   | exact culletlaw11_awake.mono _
   | exact gener_Parity.mono _ _ _ _
   | exact gf8_Mul.mono _ _ _
   | exact LeO.none _
   | refine LeO.ite ?_ ?_
   | refine LeO.bind ?_ (fun _ => ?_)
  ·intro y0 y1 y2 y3 y4
   unfold culletlaw11_GenerCauchys.l1
   repeat' first
   | (with_reducible exact ih0 _ _ _ _)
   | (with_reducible exact ih1 _ _ _ _)
   | (with_reducible exact ih2 _ _ _ _ _)
   | (with_reducible exact culletlaw11_awake.mono _)
   | (with_reducible exact gener_Parity.mono _ _ _ _)
   | (with_reducible exact gf8_Mul.mono _ _ _)
   | (with_reducible exact LeO.refl _)
   | (with_reducible exact LeO.none _)
   | (with_reducible refine LeO.ite ?_ ?_)
   | (with_reducible refine LeO.bind ?_ (fun _ => ?_))
   | exact ih0 _ _ _ _
   | exact ih1 _ _ _ _
   | exact ih2 _ _ _ _ _
   | exact culletlaw11_awake.mono _
   | exact gener_Parity.mono _ _ _ _
   | exact gf8_Mul.mono _ _ _
   | exact LeO.none _
   | refine LeO.ite ?_ ?_
   | refine LeO.bind ?_ (fun _ => ?_)
theorem culletlaw11_GenerCauchys.mono : ∀ a0 a1 k, LeO (culletlaw11_GenerCauchys.f k a0 a1) (culletlaw11_GenerCauchys.f (k + 1) a0 a1) := by
 intro a0 a1 k
 obtain ⟨ih0, ih1, ih2⟩ := culletlaw11_GenerCauchys.mono_l k
 unfold culletlaw11_GenerCauchys.f
 repeat' first
   | (with_reducible exact ih0 _ _ _ _)
   | (with_reducible exact ih1 _ _ _ _)
   | (with_reducible exact ih2 _ _ _ _ _)
   | (with_reducible exact culletlaw11_awake.mono _)
   | (with_reducible exact gener_Parity.mono _ _ _ _)
   | (with_reducible exact gf8_Mul.mono _ _ _)
   | (with_reducible exact LeO.refl _)
   | (with_reducible exact LeO.none _)
   | (with_reducible refine LeO.ite ?_ ?_)
   | (with_reducible refine LeO.bind ?_ (fun _ => ?_))
   | exact ih0 _ _ _ _
   | exact ih1 _ _ _ _
   | exact ih2 _ _ _ _ _
   | exact culletlaw11_awake.mono _
   | exact gener_Parity.mono _ _ _ _
   | exact gf8_Mul.mono _ _ _
   | exact LeO.none _
   | refine LeO.ite ?_ ?_
   | refine LeO.bind ?_ (fun _ => ?_)
set_option maxHeartbeats 8000000 in
set_option maxRecDepth 100000 in
theorem culletlaw11_GenerCauchys.calls (k : Nat) (a0 : Int) (a1 : Int) (r : Bool) (w : World) (h : culletlaw11_GenerCauchys.f k a0 a1 = some r) :
  Calls Try.prog 4 #[.int .i64 a0, .int .i64 a1] w fun e w' => e = .returned (.bool r) ∧ Below w.heap.size w w' := by
 have HB := Aside0.mk (Below.refl w.heap.size w)
 have H : ((culletlaw11_awake.f k).bind fun t101 => (if t101 = true then ((culletlaw11_into.f a0 1 255).bind fun t102 => ((culletlaw11_into.f a1 1 (wrap64 (256 - t102))).bind fun t103 => ((gener_Parity.f k 1 t102 t103).bind fun bt104 => (if bt104.2 = 0 then (culletlaw11_GenerCauchys.j0 k t102 t103 bt104.1 ((bt104.1.length : Int) != t103)) else (culletlaw11_GenerCauchys.j0 k t102 t103 bt104.1 true))))) else (some false))) = some r := h
 clear h
 replace H := Option.bind_eq_some_iff.mp H
 obtain ⟨t101, A30, H⟩ := H
 replace H : (if t101 = true then ((culletlaw11_into.f a0 1 255).bind fun t102 => ((culletlaw11_into.f a1 1 (wrap64 (256 - t102))).bind fun t103 => ((gener_Parity.f k 1 t102 t103).bind fun bt104 => (if bt104.2 = 0 then (culletlaw11_GenerCauchys.j0 k t102 t103 bt104.1 ((bt104.1.length : Int) != t103)) else (culletlaw11_GenerCauchys.j0 k t102 t103 bt104.1 true))))) else (some false)) = some r := H
 have A3 := Aside0.mk A30
 clear A30
 by_cases c4 : t101 = true
 ·subst c4
  have H1 : ((culletlaw11_into.f a0 1 255).bind fun t102 => ((culletlaw11_into.f a1 1 (wrap64 (256 - t102))).bind fun t103 => ((gener_Parity.f k 1 t102 t103).bind fun bt104 => (if bt104.2 = 0 then (culletlaw11_GenerCauchys.j0 k t102 t103 bt104.1 ((bt104.1.length : Int) != t103)) else (culletlaw11_GenerCauchys.j0 k t102 t103 bt104.1 true))))) = some r := by rw [if_pos rfl] at H; exact H
  clear H
  have H := H1
  clear H1
  replace H := Option.bind_eq_some_iff.mp H
  obtain ⟨t102, A50, H⟩ := H
  replace H : ((culletlaw11_into.f a1 1 (wrap64 (256 - t102))).bind fun t103 => ((gener_Parity.f k 1 t102 t103).bind fun bt104 => (if bt104.2 = 0 then (culletlaw11_GenerCauchys.j0 k t102 t103 bt104.1 ((bt104.1.length : Int) != t103)) else (culletlaw11_GenerCauchys.j0 k t102 t103 bt104.1 true)))) = some r := H
  have A5 := Aside0.mk A50
  clear A50
  replace H := Option.bind_eq_some_iff.mp H
  obtain ⟨t103, A60, H⟩ := H
  replace H : ((gener_Parity.f k 1 t102 t103).bind fun bt104 => (if bt104.2 = 0 then (culletlaw11_GenerCauchys.j0 k t102 t103 bt104.1 ((bt104.1.length : Int) != t103)) else (culletlaw11_GenerCauchys.j0 k t102 t103 bt104.1 true))) = some r := H
  have A6 := Aside0.mk A60
  clear A60
  replace H := Option.bind_eq_some_iff.mp H
  obtain ⟨⟨t104, t105⟩, A70, H⟩ := H
  replace H : (if t105 = 0 then (culletlaw11_GenerCauchys.j0 k t102 t103 t104 ((t104.length : Int) != t103)) else (culletlaw11_GenerCauchys.j0 k t102 t103 t104 true)) = some r := H
  have A7 := Aside0.mk A70
  clear A70
  have HC8 := Aside0.mk H
  clear H
  go_enter Try.func4, Try.ntmps4
  go_upto_region 6 with (first | ((with_reducible refine gate_callee (f := 15) rfl ?_); refine goesL_ (some 9) rfl rfl Try.func15 (by kernel_rfl) rfl #[] rfl (by (try simp only [List.map_toArray, List.map_cons, List.map_nil]); first | done | rfl | (simp only [tb_wrap8]; done) | (simp only [tb_wrap8]; rfl) | (simp only [List.length_drop, List.length_take]; rfl)) ?_; (with_reducible refine (culletlaw11_awake.calls k  true _ A3.out).mono ?_); rintro e w9 ⟨rfl, hb⟩; refine ⟨_, rfl, ?_⟩; have n0_ := Aside0.mk (below_step (by repeat (first | (with_reducible first | exact HB.out | apply below_alloc | apply pw_below_drewN | apply below_drew1) | exact HB.out)) hb); clear HB; have HB := n0_; clear n0_; (try clear hb); (try clear hb2); (try clear hk); (try clear hi)) | ((with_reducible refine gate_callee (f := 16) rfl ?_); refine goesL_ (some 12) rfl rfl Try.func16 (by kernel_rfl) rfl #[.int .i64 a0, .int .i64 1, .int .i64 255] rfl (by (try simp only [List.map_toArray, List.map_cons, List.map_nil]); first | done | rfl | (simp only [tb_wrap8]; done) | (simp only [tb_wrap8]; rfl) | (simp only [List.length_drop, List.length_take]; rfl)) ?_; (with_reducible refine (culletlaw11_into.calls a0 1 255 t102 _ A5.out).mono ?_); rintro e w' ⟨rfl, ⟨nd, rfl⟩⟩; refine ⟨_, rfl, ?_⟩) | ((with_reducible refine gate_callee (f := 16) rfl ?_); refine goesL_ (some 16) rfl rfl Try.func16 (by kernel_rfl) rfl #[.int .i64 a1, .int .i64 1, .int .i64 (wrap64 (256 - t102))] rfl (by (try simp only [List.map_toArray, List.map_cons, List.map_nil]); first | done | rfl | (simp only [tb_wrap8]; done) | (simp only [tb_wrap8]; rfl) | (simp only [List.length_drop, List.length_take]; rfl)) ?_; (with_reducible refine (culletlaw11_into.calls a1 1 (wrap64 (256 - t102)) t103 _ A6.out).mono ?_); rintro e w' ⟨rfl, ⟨nd, rfl⟩⟩; refine ⟨_, rfl, ?_⟩) | ((with_reducible refine gate_callee (f := 17) rfl ?_); refine goesL_ (some 20) rfl rfl Try.func17 (by kernel_rfl) rfl #[.int .i64 1, .int .i64 t102, .int .i64 t103] rfl (by (try simp only [List.map_toArray, List.map_cons, List.map_nil]); first | done | rfl | (simp only [tb_wrap8]; done) | (simp only [tb_wrap8]; rfl) | (simp only [List.length_drop, List.length_take]; rfl)) ?_; (with_reducible refine (gener_Parity.calls k 1 t102 t103 t104 t105 _ A7.out).mono ?_); rintro e w10 ⟨v106, rfl, ho0, hb⟩; refine ⟨_, rfl, ?_⟩; have n0_ := Aside0.mk (Kd.Q_lower ho0 (below_size (by repeat (first | (with_reducible first | exact HB.out | apply below_alloc | apply pw_below_drewN | apply below_drew1) | exact HB.out)))); have n1_ := Aside0.mk (below_step (by repeat (first | (with_reducible first | exact HB.out | apply below_alloc | apply pw_below_drewN | apply below_drew1) | exact HB.out)) hb); clear HB; have HO107 := n0_; have HB := n1_; clear n0_ n1_; (try clear hb); (try clear hb2); (try clear hk); (try clear hi); (try clear ho0)))
  (try simp only [Act.put, List.setIfInBounds_toArray, List.set_cons_zero, List.set_cons_succ])
  go_cut [30] (fun v30 wc => ∃ (kq : Nat) (x30_7 : Bool), v30 = .bool x30_7 ∧ Aside0 (culletlaw11_GenerCauchys.j0 kq t102 t103 t104 x30_7 = some r) ∧ Aside0 (kq ≤ k) ∧ Aside0 (Kd.Q (Kd.slice 5 (Kd.int .u8)) 22 wc w.heap.size (fun _ => True) v106 t104) ∧ Aside0 (Below w.heap.size w wc))
  case first =>
   have H := HC8.out
   clear HC8
   by_cases c11 : t105 = 0
   ·rw [if_pos c11] at H
    have c11b0 : (t105 == 0) = true := beq_iff_eq.mpr c11
    have c11b1 : (t105 != 0) = false := bne_eq_false_iff_eq.mpr c11
    clear c11
    (first | rw [c11b0] | (simp only [i64_w, i32_w]; rw [c11b0]) | skip)
    have H' := Aside0.mk H
    clear H
    obtain ⟨Ao12, co12, eo12, _⟩ := Kd.Q_slice HO107.out
    subst eo12
    go_wp2
    go_meet
    case rel => exact ⟨_, (((t104.length : Int) != t103)), (by first | rfl | (simp; done) | (simp [*]; done)), H', ⟨by first | omega | exact Nat.le_refl _⟩, ⟨by (with_reducible repeat (first | apply Kd.Q_alloc | apply Kd.Q_drewN | apply Kd.Q_drew)); exact HO107.out⟩, ⟨by repeat (first | (with_reducible first | exact HB.out | apply below_alloc | apply pw_below_drewN | apply below_drew1) | exact HB.out)⟩⟩
   ·rw [if_neg c11] at H
    have c11b0 : (t105 == 0) = false := beq_eq_false_iff_ne.mpr c11
    have c11b1 : (t105 != 0) = true := bne_iff_ne.mpr c11
    (first | rw [c11b0] | (simp only [i64_w, i32_w]; rw [c11b0]) | skip)
    have H' := Aside0.mk H
    clear H
    go_wp2
    go_meet
    case rel => exact ⟨_, (true), (by first | rfl | (simp; done) | (simp [*]; done)), H', ⟨by first | omega | exact Nat.le_refl _⟩, ⟨by (with_reducible repeat (first | apply Kd.Q_alloc | apply Kd.Q_drewN | apply Kd.Q_drew)); exact HO107.out⟩, ⟨by repeat (first | (with_reducible first | exact HB.out | apply below_alloc | apply pw_below_drewN | apply below_drew1) | exact HB.out)⟩⟩
  case rest =>
   clear HC8
   try clear c1
   try clear p2
   try clear c4
   try clear p6
   try clear p8
   try clear c11
   try clear c11b0
   try clear c11b1
   obtain ⟨kq, x30_7, rfl, HA, HJ7, HO_5, HB⟩ := hcut
   cases kq with
   | zero => exact absurd HA.out (by simp [culletlaw11_GenerCauchys.j0])
   | succ kj7 =>
    have H := HA.out
    clear HA
    simp only [culletlaw11_GenerCauchys.j0] at H
    by_cases c13 : x30_7 = true
    ·subst c13
     have H1 : (some false) = some r := by rw [if_pos rfl] at H; exact H
     clear H
     have H := H1
     clear H1
     obtain rfl := Option.some.inj H
     go_wp2
     go_ret
     exact ⟨by first | rfl | (simp [errW_none, errW_some] <;> rfl) | (simp [*, errW_none, errW_some] <;> rfl), by repeat (first | (with_reducible first | exact HB.out | apply below_alloc | apply pw_below_drewN | apply below_drew1) | exact HB.out)⟩
    ·replace c13 := Bool.eq_false_iff.mpr c13
     subst c13
     have H1 : (culletlaw11_GenerCauchys.l0 kj7 t102 t103 t104 0) = some r := by rw [if_neg (show ¬ (false = true) by decide)] at H; exact H
     clear H
     have H := H1
     clear H1
     have H' := Aside0.mk H
     clear H
     go_wp2
     go_loopg [7] kj7 (fun kq v7 w' => ∃ (x7_2 : Int), v7 = .int .i64 x7_2 ∧ Aside0 (culletlaw11_GenerCauchys.l0 kq t102 t103 t104 x7_2 = some r) ∧ Aside0 (kq ≤ kj7) ∧ Aside0 (Kd.Q (Kd.slice 5 (Kd.int .u8)) 22 w' w.heap.size (fun _ => True) v106 t104) ∧ Aside0 (Below w.heap.size w w'))
     case atStart => exact ⟨(0), (by first | rfl | (simp; done) | (simp [*]; done)), H', ⟨Nat.le_refl _⟩, ⟨by (with_reducible repeat (first | apply Kd.Q_alloc | apply Kd.Q_drewN | apply Kd.Q_drew)); exact HO_5.out⟩, ⟨by repeat (first | (with_reducible first | exact HB.out | apply below_alloc | apply pw_below_drewN | apply below_drew1) | exact HB.out)⟩⟩
     case round =>
      clear H'
      try clear c1
      try clear p2
      try clear c4
      try clear p6
      try clear p8
      try clear c11
      try clear c11b0
      try clear c11b1
      try clear c13
      try clear p2
      try clear p6
      try clear p8
      obtain ⟨x7_2, rfl, HA, HK2, HO_5, HB⟩ := hrel
      cases gk with
      | zero => exact absurd HA.out (by simp [culletlaw11_GenerCauchys.l0])
      | succ k2 =>
       have H := HA.out
       clear HA
       simp only [culletlaw11_GenerCauchys.l0] at H
       by_cases c14 : x7_2 < t103
       ·rw [if_pos c14] at H
        have c14b0 : decide (x7_2 < t103) = true := decide_eq_true c14
        clear c14
        by_cases c15 : 0 ≤ x7_2
        ·rw [if_pos c15] at H
         have c15b0 : decide (0 ≤ x7_2) = true := decide_eq_true c15
         clear c15
         by_cases c16 : x7_2 < (t104.length : Int)
         ·rw [if_pos c16] at H
          have c16b0 : decide (x7_2 < (t104.length : Int)) = true := decide_eq_true c16
          clear c16
          by_cases c17 : ((rd_L1 t104 x7_2).length : Int) = t102
          ·rw [if_pos c17] at H
           have c17b0 : (((rd_L1 t104 x7_2).length : Int) == t102) = true := beq_iff_eq.mpr c17
           have c17b1 : (((rd_L1 t104 x7_2).length : Int) != t102) = false := bne_eq_false_iff_eq.mpr c17
           clear c17
           have H' := Aside0.mk H
           clear H
           obtain ⟨Ao18, co18, eo18, _⟩ := Kd.Q_slice HO_5.out
           subst eo18
           have p108 : 0 ≤ (x7_2 : Int) := of_decide_eq_true (by first | (with_reducible assumption) | assumption)
           have q108 : x7_2 < (t104.length : Int) := of_decide_eq_true (by first | (with_reducible assumption) | assumption)
           obtain ⟨ad108, A108_0, c108_0, e108, hx108_0, hl108_0, hi108_0⟩ := at_L1 (Kd.Q_reads' HO_5.out).2.2 x7_2 p108 q108
           cases e108
           have HR108_0 := Aside0.mk hi108_0
           have HC108_0 := Aside0.mk hl108_0
           clear hi108_0 hl108_0
           replace p108 := eq_true p108
           replace q108 := eq_true q108
           go_wp2
           go_loopg [8] k2 (fun kq v8 w' => ∃ (x8_3 : Int), v8 = .int .i64 x8_3 ∧ Aside0 (culletlaw11_GenerCauchys.l1 kq t102 t103 t104 x7_2 x8_3 = some r) ∧ Aside0 (kq ≤ k2) ∧ Aside0 (Kd.Q (Kd.slice 5 (Kd.int .u8)) 22 w' w.heap.size (fun _ => True) (.slice (some ad108) t104.length co18) t104) ∧ Aside0 (Kd.C (Kd.int .u8) w' A108_0 (rd_L1 t104 x7_2).length (rd_L1 t104 x7_2)) ∧ Aside0 (Below w.heap.size w w'))
           case atStart => exact ⟨(0), (by first | rfl | (simp; done) | (simp [*]; done)), H', ⟨Nat.le_refl _⟩, ⟨by (with_reducible repeat (first | apply Kd.Q_alloc | apply Kd.Q_drewN | apply Kd.Q_drew)); exact HO_5.out⟩, ⟨by repeat (first | (with_reducible exact HR108_0.out) | (with_reducible refine Kd.C_alloc ?_ _) | (with_reducible refine Kd.C_drewN ?_ _) | (with_reducible refine Kd.C_drew ?_) | exact HR108_0.out)⟩, ⟨by repeat (first | (with_reducible first | exact HB.out | apply below_alloc | apply pw_below_drewN | apply below_drew1) | exact HB.out)⟩⟩
           case round =>
            clear H'
            try clear c1
            try clear p1
            try clear q1
            try clear hx1
            try clear p2
            try clear c4
            try clear p6
            try clear p8
            try clear c10
            try clear p10
            try clear q10
            try clear hx10
            try clear c11
            try clear c11b0
            try clear c11b1
            try clear c13
            try clear c14
            try clear c14b0
            try clear c15
            try clear c15b0
            try clear c16
            try clear c16b0
            try clear c17
            try clear c17b0
            try clear c17b1
            try clear hx108_0
            try clear p108
            try clear p2
            try clear p6
            try clear p8
            try clear q108
            obtain ⟨x8_3, rfl, HA, HK3, HO_5, HR108_0, HB⟩ := hrel
            cases gk with
            | zero => exact absurd HA.out (by simp [culletlaw11_GenerCauchys.l1])
            | succ k3 =>
             have H := HA.out
             clear HA
             simp only [culletlaw11_GenerCauchys.l1] at H
             by_cases c19 : x8_3 < t102
             ·rw [if_pos c19] at H
              have c19b0 : decide (x8_3 < t102) = true := decide_eq_true c19
              clear c19
              by_cases c20 : 0 ≤ x7_2
              ·rw [if_pos c20] at H
               have c20b0 : decide (0 ≤ x7_2) = true := decide_eq_true c20
               clear c20
               by_cases c21 : x7_2 < (t104.length : Int)
               ·rw [if_pos c21] at H
                have c21b0 : decide (x7_2 < (t104.length : Int)) = true := decide_eq_true c21
                clear c21
                by_cases c22 : 0 ≤ x8_3
                ·rw [if_pos c22] at H
                 have c22b0 : decide (0 ≤ x8_3) = true := decide_eq_true c22
                 clear c22
                 by_cases c23 : x8_3 < ((rd_L1 t104 x7_2).length : Int)
                 ·rw [if_pos c23] at H
                  have c23b0 : decide (x8_3 < ((rd_L1 t104 x7_2).length : Int)) = true := decide_eq_true c23
                  clear c23
                  replace H := Option.bind_eq_some_iff.mp H
                  obtain ⟨t111, A240, H⟩ := H
                  replace H : (if t111 = 1 then (culletlaw11_GenerCauchys.l1 k3 t102 t103 t104 x7_2 (wrap64 (x8_3 + 1))) else (some false)) = some r := H
                  have A24 := Aside0.mk A240
                  clear A240
                  by_cases c25 : t111 = 1
                  ·rw [if_pos c25] at H
                   have c25b0 : (t111 == 1) = true := beq_iff_eq.mpr c25
                   have c25b1 : (t111 != 1) = false := bne_eq_false_iff_eq.mpr c25
                   clear c25
                   have H' := Aside0.mk H
                   clear H
                   have p109 : 0 ≤ (x7_2 : Int) := of_decide_eq_true (by first | (with_reducible assumption) | assumption)
                   have q109 : x7_2 < (t104.length : Int) := of_decide_eq_true (by first | (with_reducible assumption) | assumption)
                   obtain ⟨ad109, A109_0, c109_0, e109, hx109_0, hl109_0, hi109_0⟩ := at_L1 (Kd.Q_reads' HO_5.out).2.2 x7_2 p109 q109
                   obtain rfl : ad108 = ad109 := (by injection e109)
                   have HR109_0 := Aside0.mk hi109_0
                   have HC109_0 := Aside0.mk hl109_0
                   clear hi109_0 hl109_0
                   replace p109 := eq_true p109
                   replace q109 := eq_true q109
                   have p110 : 0 ≤ (x8_3 : Int) := of_decide_eq_true (by first | (with_reducible assumption) | assumption)
                   have q110 : x8_3 < ((rd_L1 t104 x7_2).length : Int) := of_decide_eq_true (by first | (with_reducible assumption) | assumption)
                   obtain ⟨ad110, e110, hx110_0⟩ := Kd.at_int (by repeat (first | (with_reducible exact HR109_0.out) | (with_reducible refine Kd.C_alloc ?_ _) | (with_reducible refine Kd.C_drewN ?_ _) | (with_reducible refine Kd.C_drew ?_) | exact HR109_0.out)) x8_3 p110 q110
                   cases e110
                   replace p110 := eq_true p110
                   replace q110 := eq_true q110
                   go_wp2_with (first | ((with_reducible refine gate_callee (f := 18) rfl ?_); refine goesL_ (some 62) rfl rfl Try.func18 (by kernel_rfl) rfl #[.int .u8 (rd (rd_L1 t104 x7_2) x8_3), .int .u8 (Go.bits .xor .u8 ((wrap64 (t102 + x7_2)) % 256) ((x8_3) % 256))] rfl (by (try simp only [List.map_toArray, List.map_cons, List.map_nil]); first | done | rfl | (simp only [tb_wrap8]; done) | (simp only [tb_wrap8]; rfl) | (simp only [List.length_drop, List.length_take]; rfl)) ?_; (with_reducible refine (gf8_Mul.calls k3 (rd (rd_L1 t104 x7_2) x8_3) (Go.bits .xor .u8 ((wrap64 (t102 + x7_2)) % 256) ((x8_3) % 256)) t111 _ A24.out).mono ?_); rintro e w' ⟨rfl, ⟨nd, rfl⟩⟩; refine ⟨_, rfl, ?_⟩))
                   go_roundg k3
                   case measure => have := HJ7.out; have := HK2.out; have := HK3.out; omega
                   case rel => exact ⟨(wrap64 (x8_3 + 1)), (by first | rfl | (simp; done) | (simp [*]; done)), H', ⟨by have := HJ7.out; have := HK2.out; have := HK3.out; omega⟩, ⟨by (with_reducible repeat (first | apply Kd.Q_alloc | apply Kd.Q_drewN | apply Kd.Q_drew)); exact HO_5.out⟩, ⟨by repeat (first | (with_reducible exact HR108_0.out) | (with_reducible refine Kd.C_alloc ?_ _) | (with_reducible refine Kd.C_drewN ?_ _) | (with_reducible refine Kd.C_drew ?_) | exact HR108_0.out)⟩, ⟨by repeat (first | (with_reducible first | exact HB.out | apply below_alloc | apply pw_below_drewN | apply below_drew1) | exact HB.out)⟩⟩
                  ·rw [if_neg c25] at H
                   have c25b0 : (t111 == 1) = false := beq_eq_false_iff_ne.mpr c25
                   have c25b1 : (t111 != 1) = true := bne_iff_ne.mpr c25
                   obtain rfl := Option.some.inj H
                   have p109 : 0 ≤ (x7_2 : Int) := of_decide_eq_true (by first | (with_reducible assumption) | assumption)
                   have q109 : x7_2 < (t104.length : Int) := of_decide_eq_true (by first | (with_reducible assumption) | assumption)
                   obtain ⟨ad109, A109_0, c109_0, e109, hx109_0, hl109_0, hi109_0⟩ := at_L1 (Kd.Q_reads' HO_5.out).2.2 x7_2 p109 q109
                   obtain rfl : ad108 = ad109 := (by injection e109)
                   have HR109_0 := Aside0.mk hi109_0
                   have HC109_0 := Aside0.mk hl109_0
                   clear hi109_0 hl109_0
                   replace p109 := eq_true p109
                   replace q109 := eq_true q109
                   have p110 : 0 ≤ (x8_3 : Int) := of_decide_eq_true (by first | (with_reducible assumption) | assumption)
                   have q110 : x8_3 < ((rd_L1 t104 x7_2).length : Int) := of_decide_eq_true (by first | (with_reducible assumption) | assumption)
                   obtain ⟨ad110, e110, hx110_0⟩ := Kd.at_int (by repeat (first | (with_reducible exact HR109_0.out) | (with_reducible refine Kd.C_alloc ?_ _) | (with_reducible refine Kd.C_drewN ?_ _) | (with_reducible refine Kd.C_drew ?_) | exact HR109_0.out)) x8_3 p110 q110
                   cases e110
                   replace p110 := eq_true p110
                   replace q110 := eq_true q110
                   go_wp2_with (first | ((with_reducible refine gate_callee (f := 18) rfl ?_); refine goesL_ (some 62) rfl rfl Try.func18 (by kernel_rfl) rfl #[.int .u8 (rd (rd_L1 t104 x7_2) x8_3), .int .u8 (Go.bits .xor .u8 ((wrap64 (t102 + x7_2)) % 256) ((x8_3) % 256))] rfl (by (try simp only [List.map_toArray, List.map_cons, List.map_nil]); first | done | rfl | (simp only [tb_wrap8]; done) | (simp only [tb_wrap8]; rfl) | (simp only [List.length_drop, List.length_take]; rfl)) ?_; (with_reducible refine (gf8_Mul.calls k3 (rd (rd_L1 t104 x7_2) x8_3) (Go.bits .xor .u8 ((wrap64 (t102 + x7_2)) % 256) ((x8_3) % 256)) t111 _ A24.out).mono ?_); rintro e w' ⟨rfl, ⟨nd, rfl⟩⟩; refine ⟨_, rfl, ?_⟩))
                   go_ret
                   exact ⟨by first | rfl | (simp [errW_none, errW_some] <;> rfl) | (simp [*, errW_none, errW_some] <;> rfl), by repeat (first | (with_reducible first | exact HB.out | apply below_alloc | apply pw_below_drewN | apply below_drew1) | exact HB.out)⟩
                 ·rw [if_neg c23] at H
                  exact absurd H (by simp)
                ·rw [if_neg c22] at H
                 exact absurd H (by simp)
               ·rw [if_neg c21] at H
                exact absurd H (by simp)
              ·rw [if_neg c20] at H
               exact absurd H (by simp)
             ·rw [if_neg c19] at H
              have c19b0 : decide (x8_3 < t102) = false := decide_eq_false c19
              clear c19
              have H' := Aside0.mk H
              clear H
              go_wp2
              go_roundg k3
              case measure => have := HJ7.out; have := HK2.out; have := HK3.out; omega
              case rel => exact ⟨(wrap64 (x7_2 + 1)), (by first | rfl | (simp; done) | (simp [*]; done)), H', ⟨by have := HJ7.out; have := HK2.out; have := HK3.out; omega⟩, ⟨by (with_reducible repeat (first | apply Kd.Q_alloc | apply Kd.Q_drewN | apply Kd.Q_drew)); exact HO_5.out⟩, ⟨by repeat (first | (with_reducible first | exact HB.out | apply below_alloc | apply pw_below_drewN | apply below_drew1) | exact HB.out)⟩⟩
          ·rw [if_neg c17] at H
           have c17b0 : (((rd_L1 t104 x7_2).length : Int) == t102) = false := beq_eq_false_iff_ne.mpr c17
           have c17b1 : (((rd_L1 t104 x7_2).length : Int) != t102) = true := bne_iff_ne.mpr c17
           obtain rfl := Option.some.inj H
           obtain ⟨Ao26, co26, eo26, _⟩ := Kd.Q_slice HO_5.out
           subst eo26
           have p108 : 0 ≤ (x7_2 : Int) := of_decide_eq_true (by first | (with_reducible assumption) | assumption)
           have q108 : x7_2 < (t104.length : Int) := of_decide_eq_true (by first | (with_reducible assumption) | assumption)
           obtain ⟨ad108, A108_0, c108_0, e108, hx108_0, hl108_0, hi108_0⟩ := at_L1 (Kd.Q_reads' HO_5.out).2.2 x7_2 p108 q108
           cases e108
           have HR108_0 := Aside0.mk hi108_0
           have HC108_0 := Aside0.mk hl108_0
           clear hi108_0 hl108_0
           replace p108 := eq_true p108
           replace q108 := eq_true q108
           go_wp2
           go_ret
           exact ⟨by first | rfl | (simp [errW_none, errW_some] <;> rfl) | (simp [*, errW_none, errW_some] <;> rfl), by repeat (first | (with_reducible first | exact HB.out | apply below_alloc | apply pw_below_drewN | apply below_drew1) | exact HB.out)⟩
         ·rw [if_neg c16] at H
          exact absurd H (by simp)
        ·rw [if_neg c15] at H
         exact absurd H (by simp)
       ·rw [if_neg c14] at H
        have c14b0 : decide (x7_2 < t103) = false := decide_eq_false c14
        clear c14
        obtain rfl := Option.some.inj H
        go_wp2
        go_ret
        exact ⟨by first | rfl | (simp [errW_none, errW_some] <;> rfl) | (simp [*, errW_none, errW_some] <;> rfl), by repeat (first | (with_reducible first | exact HB.out | apply below_alloc | apply pw_below_drewN | apply below_drew1) | exact HB.out)⟩
 ·replace c4 := Bool.eq_false_iff.mpr c4
  subst c4
  have H1 : (some false) = some r := by rw [if_neg (show ¬ (false = true) by decide)] at H; exact H
  clear H
  have H := H1
  clear H1
  obtain rfl := Option.some.inj H
  go_enter Try.func4, Try.ntmps4
  go_wp2_with (first | ((with_reducible refine gate_callee (f := 15) rfl ?_); refine goesL_ (some 9) rfl rfl Try.func15 (by kernel_rfl) rfl #[] rfl (by (try simp only [List.map_toArray, List.map_cons, List.map_nil]); first | done | rfl | (simp only [tb_wrap8]; done) | (simp only [tb_wrap8]; rfl) | (simp only [List.length_drop, List.length_take]; rfl)) ?_; (with_reducible refine (culletlaw11_awake.calls k  false _ A3.out).mono ?_); rintro e w27 ⟨rfl, hb⟩; refine ⟨_, rfl, ?_⟩; have n0_ := Aside0.mk (below_step (by repeat (first | (with_reducible first | exact HB.out | apply below_alloc | apply pw_below_drewN | apply below_drew1) | exact HB.out)) hb); clear HB; have HB := n0_; clear n0_; (try clear hb); (try clear hb2); (try clear hk); (try clear hi)))
  go_ret
  exact ⟨by first | rfl | (simp [errW_none, errW_some] <;> rfl) | (simp [*, errW_none, errW_some] <;> rfl), by repeat (first | (with_reducible first | exact HB.out | apply below_alloc | apply pw_below_drewN | apply below_drew1) | exact HB.out)⟩

/-- THE ONE PURE STATEMENT of culletlaw11_GenerCauchys: yours. -/
def culletlaw11_GenerCauchys.Pure : Prop := ∀ (a0 : Int) (a1 : Int), (Lit.int .i64 a0).wf = true → (Lit.int .i64 a1).wf = true → ∃ k, culletlaw11_GenerCauchys.f k a0 a1 = some true
theorem culletlaw11_GenerCauchys.walk (P : culletlaw11_GenerCauchys.Pure) (a0 : Int) (a1 : Int) (w : World) (w0 : (Lit.int .i64 a0).wf = true) (w1 : (Lit.int .i64 a1).wf = true) :
  Calls Try.prog 4 #[.int .i64 a0, .int .i64 a1] w fun e w' => e = .returned (.bool true) ∧ Below w.heap.size w w' := by
 obtain ⟨k, h⟩ := P a0 a1 w0 w1
 refine (culletlaw11_GenerCauchys.calls k a0 a1 true w h).mono ?_
 rintro e w' ⟨rfl, hd⟩
 exact ⟨rfl, hd⟩

end Go.Proofs.Ytkdoilmfchlpdaa.Q
