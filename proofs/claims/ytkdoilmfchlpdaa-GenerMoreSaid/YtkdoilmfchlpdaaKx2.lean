import Derived.Test.YtkdoilmfchlpdaaKx0
-- Printed for this claim by mp.py, a program of its prover, through the kit's print. Lean checks it.
namespace Go.Proofs.Ytkdoilmfchlpdaa.K
open Go.RowKit Go.Proofs.YtkdoilmfchlpdaaW.PrintWords Go.Proofs.YtkdoilmfchlpdaaW.PrintLast Go.Proofs.YtkdoilmfchlpdaaW.PrintMore Go.Proofs.Ytkdoilmfchlpdaa.A Go.Proofs.Ytkdoilmfchlpdaa.B
attribute [local go_sem] max2_int min2_int max_two min_two max_three min_three max_four min_four   -- for this text's walks alone
set_option linter.unusedVariables false
set_option linter.unusedSimpArgs false

/-! ### culletlaw11_GenerMore: function 6 -/
mutual
def culletlaw11_GenerMore.j0 : Nat → Int → Int → List Int → Int → Option (Bool)
 | 0, _, _, _, _ => none
 | k + 1, x0, x1, x2, x9 => (culletlaw11_into.f (x2.length : Int) 0 x1).bind fun t104 => ((culletlaw11_chosen.f k (wrap64 (x0 + x1)) t104 x2).bind fun t105 => ((gener_Lost.f (wrap64 (x0 + x1)) t105).bind fun bt108 => (if bt108.2 = 0 then (culletlaw11_GenerMore.j1 k x0 x1 x9 t105 bt108.1 ((bt108.1.length : Int) != (wrap64 ((wrap64 (x0 + x1)) - (t105.length : Int))))) else (culletlaw11_GenerMore.j1 k x0 x1 x9 t105 bt108.1 true))))
def culletlaw11_GenerMore.j1 : Nat → Int → Int → Int → List Int → List Int → Bool → Option (Bool)
 | 0, _, _, _, _, _, _ => none
 | k + 1, x0, x1, x9, x10, x11, x56 => if x56 = true then (some false) else ((gener_Decoder.f k x9 x0 x1 x10 x11).bind fun bt112 => (if 0 ≤ x0 then (if x0 ≤ (x10.length : Int) then ((gener_Decoder.f k x9 x0 x1 (x10.take (x0 : Int).toNat) x11).bind fun bt121 => (if 0 ≤ (wrap64 (x0 - 1)) then (if (wrap64 (x0 - 1)) ≤ (x10.length : Int) then ((gener_Decoder.f k x9 x0 x1 (x10.take ((wrap64 (x0 - 1)) : Int).toNat) x11).bind fun bt130 => (if bt112.2 = 0 then (if bt121.2 = 0 then (if bt130.2 = 9 then (if (bt130.1.length : Int) = 0 then ((culletlaw11_equal.f k bt112.1 bt121.1).bind fun t134 => (if t134 = true then (culletlaw11_GenerMore.j2 k x0 x1 x9 ((bt112.1.length : Int) != (x11.length : Int))) else (culletlaw11_GenerMore.j2 k x0 x1 x9 true))) else (culletlaw11_GenerMore.j2 k x0 x1 x9 true)) else (culletlaw11_GenerMore.j2 k x0 x1 x9 true)) else (culletlaw11_GenerMore.j2 k x0 x1 x9 true)) else (culletlaw11_GenerMore.j2 k x0 x1 x9 true))) else (none)) else (none))) else (none)) else (none)))
def culletlaw11_GenerMore.j2 : Nat → Int → Int → Int → Bool → Option (Bool)
 | 0, _, _, _, _ => none
 | k + 1, x0, x1, x9, x116 => if x116 = true then (some false) else ((gener_Parity.f k x9 x0 x1).bind fun bt135 => ((gener_Generator.f k x9 x0 x1).bind fun bt139 => (if bt135.2 = 0 then (if bt139.2 = 0 then (if (bt139.1.length : Int) = (wrap64 (x0 + x1)) then (if (bt135.1.length : Int) = x1 then (if 0 ≤ x0 then (if x0 ≤ (bt139.1.length : Int) then ((culletlaw11_equal.f k (bt139.1.drop (x0 : Int).toNat) bt135.1).bind fun t148 => (some t148)) else (none)) else (none)) else (some false)) else (some false)) else (some false)) else (some false))))
end
def culletlaw11_GenerMore.f (k : Nat) (a0 : Int) (a1 : Int) (l2 : List Int) (a3 : Bool) : Option (Bool) := (culletlaw11_awake.f k).bind fun t101 => (if t101 = true then ((culletlaw11_into.f a0 1 40).bind fun t102 => ((culletlaw11_into.f a1 1 40).bind fun t103 => (if a3 = true then (culletlaw11_GenerMore.j0 k t102 t103 l2 1) else (culletlaw11_GenerMore.j0 k t102 t103 l2 0)))) else (some false))
theorem culletlaw11_GenerMore.mono_l : ∀ k, (∀ y0 y1 y2 y3, LeO (culletlaw11_GenerMore.j0 k y0 y1 y2 y3) (culletlaw11_GenerMore.j0 (k + 1) y0 y1 y2 y3)) ∧ (∀ y0 y1 y2 y3 y4 y5, LeO (culletlaw11_GenerMore.j1 k y0 y1 y2 y3 y4 y5) (culletlaw11_GenerMore.j1 (k + 1) y0 y1 y2 y3 y4 y5)) ∧ (∀ y0 y1 y2 y3, LeO (culletlaw11_GenerMore.j2 k y0 y1 y2 y3) (culletlaw11_GenerMore.j2 (k + 1) y0 y1 y2 y3))
 | 0 => ⟨fun _ _ _ _ r h => by simp [culletlaw11_GenerMore.j0] at h, fun _ _ _ _ _ _ r h => by simp [culletlaw11_GenerMore.j1] at h, fun _ _ _ _ r h => by simp [culletlaw11_GenerMore.j2] at h⟩
 | k + 1 => by
  obtain ⟨ih0, ih1, ih2⟩ := culletlaw11_GenerMore.mono_l k
  refine ⟨?_, ?_, ?_⟩
  ·intro y0 y1 y2 y3
   unfold culletlaw11_GenerMore.j0
   repeat' first
   | (with_reducible exact ih0 _ _ _ _)
   | (with_reducible exact ih1 _ _ _ _ _ _)
   | (with_reducible exact ih2 _ _ _ _)
   | (with_reducible exact culletlaw11_awake.mono _)
   | (with_reducible exact culletlaw11_chosen.mono _ _ _ _)
   | (with_reducible exact culletlaw11_equal.mono _ _ _)
   | (with_reducible exact gener_Decoder.mono _ _ _ _ _ _)
   | (with_reducible exact gener_Generator.mono _ _ _ _)
   | (with_reducible exact gener_Parity.mono _ _ _ _)
   | (with_reducible exact LeO.refl _)
   | (with_reducible exact LeO.none _)
   | (with_reducible refine LeO.ite ?_ ?_)
   | (with_reducible refine LeO.bind ?_ (fun _ => ?_))
   | exact ih0 _ _ _ _
   | exact ih1 _ _ _ _ _ _
   | exact ih2 _ _ _ _
   | exact culletlaw11_awake.mono _
   | exact culletlaw11_chosen.mono _ _ _ _
   | exact culletlaw11_equal.mono _ _ _
   | exact gener_Decoder.mono _ _ _ _ _ _
   | exact gener_Generator.mono _ _ _ _
   | exact gener_Parity.mono _ _ _ _
   | exact LeO.none _
   | refine LeO.ite ?_ ?_
   | refine LeO.bind ?_ (fun _ => ?_)
  ·intro y0 y1 y2 y3 y4 y5
   unfold culletlaw11_GenerMore.j1
   repeat' first
   | (with_reducible exact ih0 _ _ _ _)
   | (with_reducible exact ih1 _ _ _ _ _ _)
   | (with_reducible exact ih2 _ _ _ _)
   | (with_reducible exact culletlaw11_awake.mono _)
   | (with_reducible exact culletlaw11_chosen.mono _ _ _ _)
   | (with_reducible exact culletlaw11_equal.mono _ _ _)
   | (with_reducible exact gener_Decoder.mono _ _ _ _ _ _)
   | (with_reducible exact gener_Generator.mono _ _ _ _)
   | (with_reducible exact gener_Parity.mono _ _ _ _)
   | (with_reducible exact LeO.refl _)
   | (with_reducible exact LeO.none _)
   | (with_reducible refine LeO.ite ?_ ?_)
   | (with_reducible refine LeO.bind ?_ (fun _ => ?_))
   | exact ih0 _ _ _ _
   | exact ih1 _ _ _ _ _ _
   | exact ih2 _ _ _ _
   | exact culletlaw11_awake.mono _
   | exact culletlaw11_chosen.mono _ _ _ _
   | exact culletlaw11_equal.mono _ _ _
   | exact gener_Decoder.mono _ _ _ _ _ _
   | exact gener_Generator.mono _ _ _ _
   | exact gener_Parity.mono _ _ _ _
   | exact LeO.none _
   | refine LeO.ite ?_ ?_
   | refine LeO.bind ?_ (fun _ => ?_)
  ·intro y0 y1 y2 y3
   unfold culletlaw11_GenerMore.j2
   repeat' first
   | (with_reducible exact ih0 _ _ _ _)
   | (with_reducible exact ih1 _ _ _ _ _ _)
   | (with_reducible exact ih2 _ _ _ _)
   | (with_reducible exact culletlaw11_awake.mono _)
   | (with_reducible exact culletlaw11_chosen.mono _ _ _ _)
   | (with_reducible exact culletlaw11_equal.mono _ _ _)
   | (with_reducible exact gener_Decoder.mono _ _ _ _ _ _)
   | (with_reducible exact gener_Generator.mono _ _ _ _)
   | (with_reducible exact gener_Parity.mono _ _ _ _)
   | (with_reducible exact LeO.refl _)
   | (with_reducible exact LeO.none _)
   | (with_reducible refine LeO.ite ?_ ?_)
   | (with_reducible refine LeO.bind ?_ (fun _ => ?_))
   | exact ih0 _ _ _ _
   | exact ih1 _ _ _ _ _ _
   | exact ih2 _ _ _ _
   | exact culletlaw11_awake.mono _
   | exact culletlaw11_chosen.mono _ _ _ _
   | exact culletlaw11_equal.mono _ _ _
   | exact gener_Decoder.mono _ _ _ _ _ _
   | exact gener_Generator.mono _ _ _ _
   | exact gener_Parity.mono _ _ _ _
   | exact LeO.none _
   | refine LeO.ite ?_ ?_
   | refine LeO.bind ?_ (fun _ => ?_)
theorem culletlaw11_GenerMore.mono : ∀ a0 a1 a2 a3 k, LeO (culletlaw11_GenerMore.f k a0 a1 a2 a3) (culletlaw11_GenerMore.f (k + 1) a0 a1 a2 a3) := by
 intro a0 a1 a2 a3 k
 obtain ⟨ih0, ih1, ih2⟩ := culletlaw11_GenerMore.mono_l k
 unfold culletlaw11_GenerMore.f
 repeat' first
   | (with_reducible exact ih0 _ _ _ _)
   | (with_reducible exact ih1 _ _ _ _ _ _)
   | (with_reducible exact ih2 _ _ _ _)
   | (with_reducible exact culletlaw11_awake.mono _)
   | (with_reducible exact culletlaw11_chosen.mono _ _ _ _)
   | (with_reducible exact culletlaw11_equal.mono _ _ _)
   | (with_reducible exact gener_Decoder.mono _ _ _ _ _ _)
   | (with_reducible exact gener_Generator.mono _ _ _ _)
   | (with_reducible exact gener_Parity.mono _ _ _ _)
   | (with_reducible exact LeO.refl _)
   | (with_reducible exact LeO.none _)
   | (with_reducible refine LeO.ite ?_ ?_)
   | (with_reducible refine LeO.bind ?_ (fun _ => ?_))
   | exact ih0 _ _ _ _
   | exact ih1 _ _ _ _ _ _
   | exact ih2 _ _ _ _
   | exact culletlaw11_awake.mono _
   | exact culletlaw11_chosen.mono _ _ _ _
   | exact culletlaw11_equal.mono _ _ _
   | exact gener_Decoder.mono _ _ _ _ _ _
   | exact gener_Generator.mono _ _ _ _
   | exact gener_Parity.mono _ _ _ _
   | exact LeO.none _
   | refine LeO.ite ?_ ?_
   | refine LeO.bind ?_ (fun _ => ?_)
set_option maxHeartbeats 8000000 in
set_option maxRecDepth 100000 in
theorem culletlaw11_GenerMore.calls (k : Nat) (a0 : Int) (a1 : Int) (A2 : Option Addr) (c2 : Nat) (l2 : List Int) (a3 : Bool) (r : Bool) (w : World) (hr2 : Kd.C (Kd.int .i64) w A2 l2.length l2) (hc2 : l2.length ≤ c2) (h : culletlaw11_GenerMore.f k a0 a1 l2 a3 = some r) :
  Calls Try.prog 6 #[.int .i64 a0, .int .i64 a1, .slice A2 l2.length c2, .bool a3] w fun e w' => e = .returned (.bool r) ∧ Below w.heap.size w w' := by
 have HR2 := Aside0.mk hr2
 have HC2 := Aside0.mk hc2
 clear hr2 hc2
 have HB := Aside0.mk (Below.refl w.heap.size w)
 have H : ((culletlaw11_awake.f k).bind fun t101 => (if t101 = true then ((culletlaw11_into.f a0 1 40).bind fun t102 => ((culletlaw11_into.f a1 1 40).bind fun t103 => (if a3 = true then (culletlaw11_GenerMore.j0 k t102 t103 l2 1) else (culletlaw11_GenerMore.j0 k t102 t103 l2 0)))) else (some false))) = some r := h
 clear h
 replace H := Option.bind_eq_some_iff.mp H
 obtain ⟨t101, A50, H⟩ := H
 replace H : (if t101 = true then ((culletlaw11_into.f a0 1 40).bind fun t102 => ((culletlaw11_into.f a1 1 40).bind fun t103 => (if a3 = true then (culletlaw11_GenerMore.j0 k t102 t103 l2 1) else (culletlaw11_GenerMore.j0 k t102 t103 l2 0)))) else (some false)) = some r := H
 have A5 := Aside0.mk A50
 clear A50
 by_cases c6 : t101 = true
 ·subst c6
  have H1 : ((culletlaw11_into.f a0 1 40).bind fun t102 => ((culletlaw11_into.f a1 1 40).bind fun t103 => (if a3 = true then (culletlaw11_GenerMore.j0 k t102 t103 l2 1) else (culletlaw11_GenerMore.j0 k t102 t103 l2 0)))) = some r := by rw [if_pos rfl] at H; exact H
  clear H
  have H := H1
  clear H1
  replace H := Option.bind_eq_some_iff.mp H
  obtain ⟨t102, A70, H⟩ := H
  replace H : ((culletlaw11_into.f a1 1 40).bind fun t103 => (if a3 = true then (culletlaw11_GenerMore.j0 k t102 t103 l2 1) else (culletlaw11_GenerMore.j0 k t102 t103 l2 0))) = some r := H
  have A7 := Aside0.mk A70
  clear A70
  replace H := Option.bind_eq_some_iff.mp H
  obtain ⟨t103, A80, H⟩ := H
  replace H : (if a3 = true then (culletlaw11_GenerMore.j0 k t102 t103 l2 1) else (culletlaw11_GenerMore.j0 k t102 t103 l2 0)) = some r := H
  have A8 := Aside0.mk A80
  clear A80
  have HC9 := Aside0.mk H
  clear H
  go_enter Try.func6, Try.ntmps6
  go_upto_if 26 with (first | ((with_reducible refine gate_callee (f := 15) rfl ?_); refine goesL_ (some 20) rfl rfl Try.func15 (by kernel_rfl) rfl #[] rfl (by (try simp only [List.map_toArray, List.map_cons, List.map_nil]); first | done | rfl | (simp only [tb_wrap8]; done) | (simp only [tb_wrap8]; rfl) | (simp only [List.length_drop, List.length_take]; rfl)) ?_; (with_reducible refine (culletlaw11_awake.calls k  true _ A5.out).mono ?_); rintro e w10 ⟨rfl, hb⟩; refine ⟨_, rfl, ?_⟩; have n0_ := Aside0.mk (below_step (by repeat (first | (with_reducible first | exact HB.out | apply below_alloc | apply pw_below_drewN | apply below_drew1) | exact HB.out)) hb); clear HB; have HB := n0_; clear n0_; (try clear hb); (try clear hb2); (try clear hk); (try clear hi)) | ((with_reducible refine gate_callee (f := 16) rfl ?_); refine goesL_ (some 23) rfl rfl Try.func16 (by kernel_rfl) rfl #[.int .i64 a0, .int .i64 1, .int .i64 40] rfl (by (try simp only [List.map_toArray, List.map_cons, List.map_nil]); first | done | rfl | (simp only [tb_wrap8]; done) | (simp only [tb_wrap8]; rfl) | (simp only [List.length_drop, List.length_take]; rfl)) ?_; (with_reducible refine (culletlaw11_into.calls a0 1 40 t102 _ A7.out).mono ?_); rintro e w' ⟨rfl, ⟨nd, rfl⟩⟩; refine ⟨_, rfl, ?_⟩) | ((with_reducible refine gate_callee (f := 16) rfl ?_); refine goesL_ (some 25) rfl rfl Try.func16 (by kernel_rfl) rfl #[.int .i64 a1, .int .i64 1, .int .i64 40] rfl (by (try simp only [List.map_toArray, List.map_cons, List.map_nil]); first | done | rfl | (simp only [tb_wrap8]; done) | (simp only [tb_wrap8]; rfl) | (simp only [List.length_drop, List.length_take]; rfl)) ?_; (with_reducible refine (culletlaw11_into.calls a1 1 40 t103 _ A8.out).mono ?_); rintro e w' ⟨rfl, ⟨nd, rfl⟩⟩; refine ⟨_, rfl, ?_⟩))
  (try simp only [Act.put, List.setIfInBounds_toArray, List.set_cons_zero, List.set_cons_succ])
  go_cut [9] (fun v9 wc => ∃ (kq : Nat) (x9_8 : Int), v9 = .int .i64 x9_8 ∧ Aside0 (culletlaw11_GenerMore.j0 kq t102 t103 l2 x9_8 = some r) ∧ Aside0 (kq ≤ k) ∧ Aside0 (Below w.heap.size w wc))
  case first =>
   have H := HC9.out
   clear HC9
   by_cases c11 : a3 = true
   ·subst c11
    have H1 : (culletlaw11_GenerMore.j0 k t102 t103 l2 1) = some r := by rw [if_pos rfl] at H; exact H
    clear H
    have H := H1
    clear H1
    have H' := Aside0.mk H
    clear H
    go_wp2
    go_meet
    case rel => exact ⟨_, (1), (by first | rfl | (simp; done) | (simp [*]; done)), H', ⟨by first | omega | exact Nat.le_refl _⟩, ⟨by repeat (first | (with_reducible first | exact HB.out | apply below_alloc | apply pw_below_drewN | apply below_drew1) | exact HB.out)⟩⟩
   ·replace c11 := Bool.eq_false_iff.mpr c11
    subst c11
    have H1 : (culletlaw11_GenerMore.j0 k t102 t103 l2 0) = some r := by rw [if_neg (show ¬ (false = true) by decide)] at H; exact H
    clear H
    have H := H1
    clear H1
    have H' := Aside0.mk H
    clear H
    go_wp2
    go_meet
    case rel => exact ⟨_, (0), (by first | rfl | (simp; done) | (simp [*]; done)), H', ⟨by first | omega | exact Nat.le_refl _⟩, ⟨by repeat (first | (with_reducible first | exact HB.out | apply below_alloc | apply pw_below_drewN | apply below_drew1) | exact HB.out)⟩⟩
  case rest =>
   clear HC9
   try clear c1
   try clear c2
   try clear p2
   try clear c6
   try clear p8
   try clear c11
   obtain ⟨kq, x9_8, rfl, HA, HJ8, HB⟩ := hcut
   cases kq with
   | zero => exact absurd HA.out (by simp [culletlaw11_GenerMore.j0])
   | succ kj8 =>
    have H := HA.out
    clear HA
    simp only [culletlaw11_GenerMore.j0] at H
    replace H := Option.bind_eq_some_iff.mp H
    obtain ⟨t104, A120, H⟩ := H
    replace H : ((culletlaw11_chosen.f kj8 (wrap64 (t102 + t103)) t104 l2).bind fun t105 => ((gener_Lost.f (wrap64 (t102 + t103)) t105).bind fun bt108 => (if bt108.2 = 0 then (culletlaw11_GenerMore.j1 kj8 t102 t103 x9_8 t105 bt108.1 ((bt108.1.length : Int) != (wrap64 ((wrap64 (t102 + t103)) - (t105.length : Int))))) else (culletlaw11_GenerMore.j1 kj8 t102 t103 x9_8 t105 bt108.1 true)))) = some r := H
    have A12 := Aside0.mk A120
    clear A120
    replace H := Option.bind_eq_some_iff.mp H
    obtain ⟨t105, A130, H⟩ := H
    replace H : ((gener_Lost.f (wrap64 (t102 + t103)) t105).bind fun bt108 => (if bt108.2 = 0 then (culletlaw11_GenerMore.j1 kj8 t102 t103 x9_8 t105 bt108.1 ((bt108.1.length : Int) != (wrap64 ((wrap64 (t102 + t103)) - (t105.length : Int))))) else (culletlaw11_GenerMore.j1 kj8 t102 t103 x9_8 t105 bt108.1 true))) = some r := H
    have A13 := Aside0.mk A130
    clear A130
    replace H := Option.bind_eq_some_iff.mp H
    obtain ⟨⟨t108, t109⟩, A140, H⟩ := H
    replace H : (if t109 = 0 then (culletlaw11_GenerMore.j1 kj8 t102 t103 x9_8 t105 t108 ((t108.length : Int) != (wrap64 ((wrap64 (t102 + t103)) - (t105.length : Int))))) else (culletlaw11_GenerMore.j1 kj8 t102 t103 x9_8 t105 t108 true)) = some r := H
    have A14 := Aside0.mk A140
    clear A140
    have HC15 := Aside0.mk H
    clear H
    go_upto_region 10 with (first | ((with_reducible refine gate_callee (f := 16) rfl ?_); refine goesL_ (some 33) rfl rfl Try.func16 (by kernel_rfl) rfl #[.int .i64 (l2.length : Int), .int .i64 0, .int .i64 t103] rfl (by (try simp only [List.map_toArray, List.map_cons, List.map_nil]); first | done | rfl | (simp only [tb_wrap8]; done) | (simp only [tb_wrap8]; rfl) | (simp only [List.length_drop, List.length_take]; rfl)) ?_; (with_reducible refine (culletlaw11_into.calls (l2.length : Int) 0 t103 t104 _ A12.out).mono ?_); rintro e w' ⟨rfl, ⟨nd, rfl⟩⟩; refine ⟨_, rfl, ?_⟩) | ((with_reducible refine gate_callee (f := 21) rfl ?_); refine goesL_ (some 35) rfl rfl Try.func21 (by kernel_rfl) rfl #[.int .i64 (wrap64 (t102 + t103)), .int .i64 t104, .slice A2 l2.length c2] rfl (by (try simp only [List.map_toArray, List.map_cons, List.map_nil]); first | done | rfl | (simp only [tb_wrap8]; done) | (simp only [tb_wrap8]; rfl) | (simp only [List.length_drop, List.length_take]; rfl)) ?_; (with_reducible refine (culletlaw11_chosen.calls kj8 (wrap64 (t102 + t103)) t104 _ _ l2 t105 _ ?side1 ?side2 A13.out).mono ?_); (case side1 => repeat (first | exact (Kd.C_below HR2.out (by repeat (first | (with_reducible first | exact HB.out | apply below_alloc | apply pw_below_drewN | apply below_drew1) | exact HB.out))) | (with_reducible refine Kd.C_alloc ?_ _) | (with_reducible refine Kd.C_drewN ?_ _) | (with_reducible refine Kd.C_drew ?_))); (case side2 => exact HC2.out); rintro e w16 ⟨v106, rfl, ho0, hb⟩; refine ⟨_, rfl, ?_⟩; have n0_ := Aside0.mk (Kd.R_lower ho0 (below_size (by repeat (first | (with_reducible first | exact HB.out | apply below_alloc | apply pw_below_drewN | apply below_drew1) | exact HB.out)))); have n1_ := Aside0.mk (below_step (by repeat (first | (with_reducible first | exact HB.out | apply below_alloc | apply pw_below_drewN | apply below_drew1) | exact HB.out)) hb); clear HB; have HO107 := n0_; have HB := n1_; clear n0_ n1_; (try clear hb); (try clear hb2); (try clear hk); (try clear hi); (try clear ho0); obtain ⟨Ao17, co17, eo17⟩ := Kd.R_slice HO107.out; subst eo17) | ((with_reducible refine gate_callee (f := 23) rfl ?_); refine goesL_ (some 41) rfl rfl Try.func23 (by kernel_rfl) rfl #[.int .i64 (wrap64 (t102 + t103)), .slice Ao17 t105.length co17] rfl (by (try simp only [List.map_toArray, List.map_cons, List.map_nil]); first | done | rfl | (simp only [tb_wrap8]; done) | (simp only [tb_wrap8]; rfl) | (simp only [List.length_drop, List.length_take]; rfl)) ?_; (with_reducible refine (gener_Lost.calls (wrap64 (t102 + t103)) _ _ t105 t108 t109 _ ?side1 ?side2 A14.out).mono ?_); (case side1 => repeat (first | exact (Kd.R_reads' HO107.out).2.2 | (with_reducible refine Kd.C_alloc ?_ _) | (with_reducible refine Kd.C_drewN ?_ _) | (with_reducible refine Kd.C_drew ?_))); (case side2 => exact (Kd.R_reads' HO107.out).2.1); rintro e w18 ⟨v110, rfl, ho0, hb⟩; refine ⟨_, rfl, ?_⟩; have n0_ := Aside0.mk (Kd.R_elder' (by (with_reducible repeat (first | apply Kd.R_alloc | apply Kd.R_drewN | apply Kd.R_drew)); exact HO107.out) (Kd.R_base ho0) hb); have n1_ := Aside0.mk (Kd.R_lower (Kd.R_new' ho0 (Kd.R_lt (by (with_reducible repeat (first | apply Kd.R_alloc | apply Kd.R_drewN | apply Kd.R_drew)); exact HO107.out))) (below_size (by repeat (first | (with_reducible first | exact HB.out | apply below_alloc | apply pw_below_drewN | apply below_drew1) | exact HB.out)))); have n2_ := Aside0.mk (below_step (by repeat (first | (with_reducible first | exact HB.out | apply below_alloc | apply pw_below_drewN | apply below_drew1) | exact HB.out)) hb); clear HO107; clear HB; have HO107 := n0_; have HO111 := n1_; have HB := n2_; clear n0_ n1_ n2_; (try clear hb); (try clear hb2); (try clear hk); (try clear hi); (try clear ho0)))
    (try simp only [Act.put, List.setIfInBounds_toArray, List.set_cons_zero, List.set_cons_succ])
    go_cut [56] (fun v56 wc => ∃ (kq : Nat) (x56_14 : Bool), v56 = .bool x56_14 ∧ Aside0 (culletlaw11_GenerMore.j1 kq t102 t103 x9_8 t105 t108 x56_14 = some r) ∧ Aside0 (kq ≤ kj8) ∧ Aside0 (Kd.R (Kd.int .i64) 3 wc w.heap.size (fun k_ => some k_ ≠ (v110 : Value).ownBlock) (.slice Ao17 t105.length co17) t105) ∧ Aside0 (Kd.R (Kd.int .i64) 3 wc w.heap.size (fun k_ => some k_ ≠ ((.slice Ao17 t105.length co17) : Value).ownBlock) v110 t108) ∧ Aside0 (Below w.heap.size w wc))
    case first =>
     have H := HC15.out
     clear HC15
     by_cases c19 : t109 = 0
     ·rw [if_pos c19] at H
      have c19b0 : (t109 == 0) = true := beq_iff_eq.mpr c19
      have c19b1 : (t109 != 0) = false := bne_eq_false_iff_eq.mpr c19
      clear c19
      (first | rw [c19b0] | (simp only [i64_w, i32_w]; rw [c19b0]) | skip)
      have H' := Aside0.mk H
      clear H
      obtain ⟨Ao20, co20, eo20⟩ := Kd.R_slice HO111.out
      subst eo20
      go_wp2
      go_meet
      case rel => exact ⟨_, (((t108.length : Int) != (wrap64 ((wrap64 (t102 + t103)) - (t105.length : Int))))), (by first | rfl | (simp; done) | (simp [*]; done)), H', ⟨by have := HJ8.out; first | omega | exact Nat.le_refl _⟩, ⟨by (with_reducible repeat (first | apply Kd.R_alloc | apply Kd.R_drewN | apply Kd.R_drew)); exact Kd.R_mono HO107.out (fun _ hk => hk.2)⟩, ⟨by (with_reducible repeat (first | apply Kd.R_alloc | apply Kd.R_drewN | apply Kd.R_drew)); exact Kd.R_mono HO111.out (fun _ hk => hk.2)⟩, ⟨by repeat (first | (with_reducible first | exact HB.out | apply below_alloc | apply pw_below_drewN | apply below_drew1) | exact HB.out)⟩⟩
     ·rw [if_neg c19] at H
      have c19b0 : (t109 == 0) = false := beq_eq_false_iff_ne.mpr c19
      have c19b1 : (t109 != 0) = true := bne_iff_ne.mpr c19
      (first | rw [c19b0] | (simp only [i64_w, i32_w]; rw [c19b0]) | skip)
      have H' := Aside0.mk H
      clear H
      go_wp2
      go_meet
      case rel => exact ⟨_, (true), (by first | rfl | (simp; done) | (simp [*]; done)), H', ⟨by have := HJ8.out; first | omega | exact Nat.le_refl _⟩, ⟨by (with_reducible repeat (first | apply Kd.R_alloc | apply Kd.R_drewN | apply Kd.R_drew)); exact Kd.R_mono HO107.out (fun _ hk => hk.2)⟩, ⟨by (with_reducible repeat (first | apply Kd.R_alloc | apply Kd.R_drewN | apply Kd.R_drew)); exact Kd.R_mono HO111.out (fun _ hk => hk.2)⟩, ⟨by repeat (first | (with_reducible first | exact HB.out | apply below_alloc | apply pw_below_drewN | apply below_drew1) | exact HB.out)⟩⟩
    case rest =>
     clear HC15
     try clear c1
     try clear c2
     try clear p2
     try clear c6
     try clear p6
     try clear p8
     try clear c11
     try clear c15
     try clear c16
     try clear c19
     try clear c19b0
     try clear c19b1
     try clear p2
     try clear p8
     obtain ⟨kq, x56_14, rfl, HA, HJ14, HO_10, HO_11, HB⟩ := hcut
     cases kq with
     | zero => exact absurd HA.out (by simp [culletlaw11_GenerMore.j1])
     | succ kj14 =>
      have H := HA.out
      clear HA
      simp only [culletlaw11_GenerMore.j1] at H
      by_cases c21 : x56_14 = true
      ·subst c21
       have H1 : (some false) = some r := by rw [if_pos rfl] at H; exact H
       clear H
       have H := H1
       clear H1
       obtain rfl := Option.some.inj H
       go_wp2
       go_ret
       exact ⟨by first | rfl | (simp [errW_none, errW_some] <;> rfl) | (simp [*, errW_none, errW_some] <;> rfl), by repeat (first | (with_reducible first | exact HB.out | apply below_alloc | apply pw_below_drewN | apply below_drew1) | exact HB.out)⟩
      ·replace c21 := Bool.eq_false_iff.mpr c21
       subst c21
       have H1 : ((gener_Decoder.f kj14 x9_8 t102 t103 t105 t108).bind fun bt112 => (if 0 ≤ t102 then (if t102 ≤ (t105.length : Int) then ((gener_Decoder.f kj14 x9_8 t102 t103 (t105.take (t102 : Int).toNat) t108).bind fun bt121 => (if 0 ≤ (wrap64 (t102 - 1)) then (if (wrap64 (t102 - 1)) ≤ (t105.length : Int) then ((gener_Decoder.f kj14 x9_8 t102 t103 (t105.take ((wrap64 (t102 - 1)) : Int).toNat) t108).bind fun bt130 => (if bt112.2 = 0 then (if bt121.2 = 0 then (if bt130.2 = 9 then (if (bt130.1.length : Int) = 0 then ((culletlaw11_equal.f kj14 bt112.1 bt121.1).bind fun t134 => (if t134 = true then (culletlaw11_GenerMore.j2 kj14 t102 t103 x9_8 ((bt112.1.length : Int) != (t108.length : Int))) else (culletlaw11_GenerMore.j2 kj14 t102 t103 x9_8 true))) else (culletlaw11_GenerMore.j2 kj14 t102 t103 x9_8 true)) else (culletlaw11_GenerMore.j2 kj14 t102 t103 x9_8 true)) else (culletlaw11_GenerMore.j2 kj14 t102 t103 x9_8 true)) else (culletlaw11_GenerMore.j2 kj14 t102 t103 x9_8 true))) else (none)) else (none))) else (none)) else (none))) = some r := by rw [if_neg (show ¬ (false = true) by decide)] at H; exact H
       clear H
       have H := H1
       clear H1
       replace H := Option.bind_eq_some_iff.mp H
       obtain ⟨⟨t112, t115⟩, A220, H⟩ := H
       replace H : (if 0 ≤ t102 then (if t102 ≤ (t105.length : Int) then ((gener_Decoder.f kj14 x9_8 t102 t103 (t105.take (t102 : Int).toNat) t108).bind fun bt121 => (if 0 ≤ (wrap64 (t102 - 1)) then (if (wrap64 (t102 - 1)) ≤ (t105.length : Int) then ((gener_Decoder.f kj14 x9_8 t102 t103 (t105.take ((wrap64 (t102 - 1)) : Int).toNat) t108).bind fun bt130 => (if t115 = 0 then (if bt121.2 = 0 then (if bt130.2 = 9 then (if (bt130.1.length : Int) = 0 then ((culletlaw11_equal.f kj14 t112 bt121.1).bind fun t134 => (if t134 = true then (culletlaw11_GenerMore.j2 kj14 t102 t103 x9_8 ((t112.length : Int) != (t108.length : Int))) else (culletlaw11_GenerMore.j2 kj14 t102 t103 x9_8 true))) else (culletlaw11_GenerMore.j2 kj14 t102 t103 x9_8 true)) else (culletlaw11_GenerMore.j2 kj14 t102 t103 x9_8 true)) else (culletlaw11_GenerMore.j2 kj14 t102 t103 x9_8 true)) else (culletlaw11_GenerMore.j2 kj14 t102 t103 x9_8 true))) else (none)) else (none))) else (none)) else (none)) = some r := H
       have A22 := Aside0.mk A220
       clear A220
       by_cases c23 : 0 ≤ t102
       ·rw [if_pos c23] at H
        have c23b0 := eq_true c23
        have c23b1 : decide (0 ≤ t102) = true := decide_eq_true c23
        clear c23
        by_cases c24 : t102 ≤ (t105.length : Int)
        ·rw [if_pos c24] at H
         have c24b0 := eq_true c24
         have c24b1 : decide (t102 ≤ (t105.length : Int)) = true := decide_eq_true c24
         clear c24
         obtain ⟨y116, hy116⟩ : ∃ y_ : List Int, y_ = (t105.take (t102 : Int).toNat) := ⟨_, rfl⟩
         replace H : ((gener_Decoder.f kj14 x9_8 t102 t103 y116 t108).bind fun bt121 => (if 0 ≤ (wrap64 (t102 - 1)) then (if (wrap64 (t102 - 1)) ≤ (t105.length : Int) then ((gener_Decoder.f kj14 x9_8 t102 t103 (t105.take ((wrap64 (t102 - 1)) : Int).toNat) t108).bind fun bt130 => (if t115 = 0 then (if bt121.2 = 0 then (if bt130.2 = 9 then (if (bt130.1.length : Int) = 0 then ((culletlaw11_equal.f kj14 t112 bt121.1).bind fun t134 => (if t134 = true then (culletlaw11_GenerMore.j2 kj14 t102 t103 x9_8 ((t112.length : Int) != (t108.length : Int))) else (culletlaw11_GenerMore.j2 kj14 t102 t103 x9_8 true))) else (culletlaw11_GenerMore.j2 kj14 t102 t103 x9_8 true)) else (culletlaw11_GenerMore.j2 kj14 t102 t103 x9_8 true)) else (culletlaw11_GenerMore.j2 kj14 t102 t103 x9_8 true)) else (culletlaw11_GenerMore.j2 kj14 t102 t103 x9_8 true))) else (none)) else (none))) = some r := by first | (rw [hy116]; with_reducible exact H) | (have H2_ := (Option.bind_some _ _).symm.trans H; rw [hy116]; with_reducible exact H2_) | (have H2_ := (Option.bind_some _ _).symm.trans H; with_reducible exact H2_) | with_reducible exact H | (rw [hy116]; exact H) | exact H
         have Ny116 := Aside0.mk hy116
         clear hy116
         replace H := Option.bind_eq_some_iff.mp H
         obtain ⟨⟨t121, t124⟩, A250, H⟩ := H
         replace H : (if 0 ≤ (wrap64 (t102 - 1)) then (if (wrap64 (t102 - 1)) ≤ (t105.length : Int) then ((gener_Decoder.f kj14 x9_8 t102 t103 (t105.take ((wrap64 (t102 - 1)) : Int).toNat) t108).bind fun bt130 => (if t115 = 0 then (if t124 = 0 then (if bt130.2 = 9 then (if (bt130.1.length : Int) = 0 then ((culletlaw11_equal.f kj14 t112 t121).bind fun t134 => (if t134 = true then (culletlaw11_GenerMore.j2 kj14 t102 t103 x9_8 ((t112.length : Int) != (t108.length : Int))) else (culletlaw11_GenerMore.j2 kj14 t102 t103 x9_8 true))) else (culletlaw11_GenerMore.j2 kj14 t102 t103 x9_8 true)) else (culletlaw11_GenerMore.j2 kj14 t102 t103 x9_8 true)) else (culletlaw11_GenerMore.j2 kj14 t102 t103 x9_8 true)) else (culletlaw11_GenerMore.j2 kj14 t102 t103 x9_8 true))) else (none)) else (none)) = some r := H
         have A25 := Aside0.mk A250
         clear A250
         obtain ⟨ji26, hji26⟩ : ∃ j_ : Int, (wrap64 (t102 - 1)) = j_ := ⟨_, rfl⟩
         replace H : (if 0 ≤ (ji26) then (if (ji26) ≤ (t105.length : Int) then ((gener_Decoder.f kj14 x9_8 t102 t103 (t105.take ((ji26) : Int).toNat) t108).bind fun bt130 => (if t115 = 0 then (if t124 = 0 then (if bt130.2 = 9 then (if (bt130.1.length : Int) = 0 then ((culletlaw11_equal.f kj14 t112 t121).bind fun t134 => (if t134 = true then (culletlaw11_GenerMore.j2 kj14 t102 t103 x9_8 ((t112.length : Int) != (t108.length : Int))) else (culletlaw11_GenerMore.j2 kj14 t102 t103 x9_8 true))) else (culletlaw11_GenerMore.j2 kj14 t102 t103 x9_8 true)) else (culletlaw11_GenerMore.j2 kj14 t102 t103 x9_8 true)) else (culletlaw11_GenerMore.j2 kj14 t102 t103 x9_8 true)) else (culletlaw11_GenerMore.j2 kj14 t102 t103 x9_8 true))) else (none)) else (none)) = some r := by first | (rw [hji26] at H; exact H) | (simp only [hji26] at H ⊢; exact H)
         (try rw [hji26] at A22)
         (try rw [hji26] at A25)
         have hji26w : (IntKind.i64.wrap (t102 - 1)) = ji26 := (i64_w _).trans hji26
         by_cases c27 : 0 ≤ (ji26)
         ·rw [if_pos c27] at H
          have c27b0 := eq_true c27
          have c27b1 : decide (0 ≤ (ji26)) = true := decide_eq_true c27
          clear c27
          by_cases c28 : (ji26) ≤ (t105.length : Int)
          ·rw [if_pos c28] at H
           have c28b0 := eq_true c28
           have c28b1 : decide ((ji26) ≤ (t105.length : Int)) = true := decide_eq_true c28
           clear c28
           obtain ⟨y125, hy125⟩ : ∃ y_ : List Int, y_ = (t105.take ((ji26) : Int).toNat) := ⟨_, rfl⟩
           replace H : ((gener_Decoder.f kj14 x9_8 t102 t103 y125 t108).bind fun bt130 => (if t115 = 0 then (if t124 = 0 then (if bt130.2 = 9 then (if (bt130.1.length : Int) = 0 then ((culletlaw11_equal.f kj14 t112 t121).bind fun t134 => (if t134 = true then (culletlaw11_GenerMore.j2 kj14 t102 t103 x9_8 ((t112.length : Int) != (t108.length : Int))) else (culletlaw11_GenerMore.j2 kj14 t102 t103 x9_8 true))) else (culletlaw11_GenerMore.j2 kj14 t102 t103 x9_8 true)) else (culletlaw11_GenerMore.j2 kj14 t102 t103 x9_8 true)) else (culletlaw11_GenerMore.j2 kj14 t102 t103 x9_8 true)) else (culletlaw11_GenerMore.j2 kj14 t102 t103 x9_8 true))) = some r := by first | (rw [hy125]; with_reducible exact H) | (have H2_ := (Option.bind_some _ _).symm.trans H; rw [hy125]; with_reducible exact H2_) | (have H2_ := (Option.bind_some _ _).symm.trans H; with_reducible exact H2_) | with_reducible exact H | (rw [hy125]; exact H) | exact H
           have Ny125 := Aside0.mk hy125
           clear hy125
           replace H := Option.bind_eq_some_iff.mp H
           obtain ⟨⟨t130, t133⟩, A290, H⟩ := H
           replace H : (if t115 = 0 then (if t124 = 0 then (if t133 = 9 then (if (t130.length : Int) = 0 then ((culletlaw11_equal.f kj14 t112 t121).bind fun t134 => (if t134 = true then (culletlaw11_GenerMore.j2 kj14 t102 t103 x9_8 ((t112.length : Int) != (t108.length : Int))) else (culletlaw11_GenerMore.j2 kj14 t102 t103 x9_8 true))) else (culletlaw11_GenerMore.j2 kj14 t102 t103 x9_8 true)) else (culletlaw11_GenerMore.j2 kj14 t102 t103 x9_8 true)) else (culletlaw11_GenerMore.j2 kj14 t102 t103 x9_8 true)) else (culletlaw11_GenerMore.j2 kj14 t102 t103 x9_8 true)) = some r := H
           have A29 := Aside0.mk A290
           clear A290
           have HC30 := Aside0.mk H
           clear H
           obtain ⟨Ao31, co31, eo31⟩ := Kd.R_slice HO_11.out
           subst eo31
           go_upto_region 15 with (first | ((with_reducible refine gate_callee (f := 22) rfl ?_); refine goesL_ (some 63) rfl rfl Try.func22 (by kernel_rfl) rfl #[.int .i64 x9_8, .int .i64 t102, .int .i64 t103, .slice Ao17 t105.length co17, .slice Ao31 t108.length co31] rfl (by (try simp only [List.map_toArray, List.map_cons, List.map_nil]); first | done | rfl | (simp only [tb_wrap8]; done) | (simp only [tb_wrap8]; rfl) | (simp only [List.length_drop, List.length_take]; rfl)) ?_; (with_reducible refine (gener_Decoder.calls kj14 x9_8 t102 t103 _ _ t105 _ _ t108 t112 t115 _ ?side1 ?side2 ?side3 ?side4 A22.out).mono ?_); (case side1 => repeat (first | exact (Kd.R_reads' HO_10.out).2.2 | (with_reducible refine Kd.C_alloc ?_ _) | (with_reducible refine Kd.C_drewN ?_ _) | (with_reducible refine Kd.C_drew ?_))); (case side2 => exact (Kd.R_reads' HO_10.out).2.1); (case side3 => repeat (first | exact (Kd.R_reads' HO_11.out).2.2 | (with_reducible refine Kd.C_alloc ?_ _) | (with_reducible refine Kd.C_drewN ?_ _) | (with_reducible refine Kd.C_drew ?_))); (case side4 => exact (Kd.R_reads' HO_11.out).2.1); rintro e w32 ⟨v113, rfl, ho0, hb⟩; refine ⟨_, rfl, ?_⟩; have n0_ := Aside0.mk (Kd.R_below (by (with_reducible repeat (first | apply Kd.R_alloc | apply Kd.R_drewN | apply Kd.R_drew)); exact HO_10.out) hb); have n1_ := Aside0.mk (Kd.R_below (by (with_reducible repeat (first | apply Kd.R_alloc | apply Kd.R_drewN | apply Kd.R_drew)); exact HO_11.out) hb); have n2_ := Aside0.mk (Kd.N_lower (Kd.N_mono (ok' := fun k_ => some k_ ≠ (.slice Ao17 t105.length co17 : Value).ownBlock ∧ some k_ ≠ (.slice Ao31 t108.length co31 : Value).ownBlock) ho0 (fun k_ hk_ => ⟨(Kd.fresh' (Kd.R_lt (by (with_reducible repeat (first | apply Kd.R_alloc | apply Kd.R_drewN | apply Kd.R_drew)); exact HO_10.out)) k_ hk_), (Kd.fresh' (Kd.R_lt (by (with_reducible repeat (first | apply Kd.R_alloc | apply Kd.R_drewN | apply Kd.R_drew)); exact HO_11.out)) k_ hk_)⟩)) (below_size (by repeat (first | (with_reducible first | exact HB.out | apply below_alloc | apply pw_below_drewN | apply below_drew1) | exact HB.out)))); have n3_ := Aside0.mk (below_step (by repeat (first | (with_reducible first | exact HB.out | apply below_alloc | apply pw_below_drewN | apply below_drew1) | exact HB.out)) hb); clear HO_10; clear HO_11; clear HB; have HO_10 := n0_; have HO_11 := n1_; have HO114 := n2_; have HB := n3_; clear n0_ n1_ n2_ n3_; (try clear hb); (try clear hb2); (try clear hk); (try clear hi); (try clear ho0); have q33 : (t102 : Int) ≤ ((t105.length : Int) : Int) := of_decide_eq_true (by first | (with_reducible assumption) | assumption); obtain ⟨i033, hi033, _, hsz33, _⟩ := info_parts info3; have hroom33 : t105.length ≤ co17 := (Kd.R_reads' HO_10.out).2.1; have hC33 : Kd.F (Kd.int .i64) _ _ Ao17 t105.length t105 := (Kd.V_at (base := w.heap.size) (Kd.R_V (Kd.R_apart' (HO_10.out) (Kd.N_typed HO114.out) (by decide)))).2.2; have hcut33 := cut_to (P := Try.prog) 34 3 .i64 Try.underlying34 hi033 Ao17 t105.length co17 t102 (of_decide_eq_true (by first | (with_reducible assumption) | assumption)) q33 hroom33; have hr33 := Kd.F_take (m := (t102 : Int).toNat) hC33 (by omega); have hy33 : y116.length = (t102 : Int).toNat := (by rw [Ny116.out, List.length_take]; omega); rw [← Ny116.out] at hr33; rw [← hy33] at hcut33; have HO120 := Aside0.mk (show Kd.V (Kd.int .i64) 3 _ w.heap.size _ (.slice Ao17 y116.length co17) y116 from Kd.V_mk (by omega) hr33); have HC120 := Aside0.mk (show y116.length ≤ co17 from by omega); clear hr33 hC33 hroom33 hi033 hsz33; have KY33 := Aside0.mk hy33; clear hy33; replace q33 := eq_true q33) | ((with_reducible refine gate_callee (f := 22) rfl ?_); refine goesL_ (some 74) rfl rfl Try.func22 (by kernel_rfl) rfl #[.int .i64 x9_8, .int .i64 t102, .int .i64 t103, .slice Ao17 y116.length co17, .slice Ao31 t108.length co31] rfl (by (try simp only [List.map_toArray, List.map_cons, List.map_nil]); first | done | rfl | (simp only [tb_wrap8]; done) | (simp only [tb_wrap8]; rfl) | (simp only [List.length_drop, List.length_take]; rfl)) ?_; (with_reducible refine (gener_Decoder.calls kj14 x9_8 t102 t103 _ _ y116 _ _ t108 t121 t124 _ ?side1 ?side2 ?side3 ?side4 A25.out).mono ?_); (case side1 => repeat (first | exact (Kd.V_reads' HO120.out).2.2 | (with_reducible refine Kd.C_alloc ?_ _) | (with_reducible refine Kd.C_drewN ?_ _) | (with_reducible refine Kd.C_drew ?_))); (case side2 => exact (Kd.V_reads' HO120.out).2.1); (case side3 => repeat (first | exact (Kd.R_reads' HO_11.out).2.2 | (with_reducible refine Kd.C_alloc ?_ _) | (with_reducible refine Kd.C_drewN ?_ _) | (with_reducible refine Kd.C_drew ?_))); (case side4 => exact (Kd.R_reads' HO_11.out).2.1); rintro e w34 ⟨v122, rfl, ho0, hb⟩; refine ⟨_, rfl, ?_⟩; have n0_ := Aside0.mk (Kd.R_below (by (with_reducible repeat (first | apply Kd.R_alloc | apply Kd.R_drewN | apply Kd.R_drew)); exact HO_10.out) hb); have n1_ := Aside0.mk (Kd.R_below (by (with_reducible repeat (first | apply Kd.R_alloc | apply Kd.R_drewN | apply Kd.R_drew)); exact HO_11.out) hb); have n2_ := Aside0.mk (Kd.N_elder' (by (with_reducible repeat (first | apply Kd.N_alloc | apply Kd.N_drewN | apply Kd.N_drew)); exact HO114.out) (by first | exact Kd.N_base ho0 | exact Kd.S_base ho0) hb); have n3_ := Aside0.mk (Kd.V_elder' (by (with_reducible repeat (first | apply Kd.V_alloc | apply Kd.V_drewN | apply Kd.V_drew)); exact HO120.out) (by first | exact Kd.N_base ho0 | exact Kd.S_base ho0) hb); have n4_ := Aside0.mk (Kd.N_lower (Kd.N_mono (ok' := fun k_ => some k_ ≠ (.slice Ao17 t105.length co17 : Value).ownBlock ∧ some k_ ≠ (.slice Ao31 t108.length co31 : Value).ownBlock ∧ some k_ ≠ (v113 : Value).ownBlock) ho0 (fun k_ hk_ => ⟨(Kd.fresh' (Kd.R_lt (by (with_reducible repeat (first | apply Kd.R_alloc | apply Kd.R_drewN | apply Kd.R_drew)); exact HO_10.out)) k_ hk_), (Kd.fresh' (Kd.R_lt (by (with_reducible repeat (first | apply Kd.R_alloc | apply Kd.R_drewN | apply Kd.R_drew)); exact HO_11.out)) k_ hk_), (Kd.fresh' (Kd.N_lt (by (with_reducible repeat (first | apply Kd.N_alloc | apply Kd.N_drewN | apply Kd.N_drew)); exact HO114.out)) k_ hk_)⟩)) (below_size (by repeat (first | (with_reducible first | exact HB.out | apply below_alloc | apply pw_below_drewN | apply below_drew1) | exact HB.out)))); have n5_ := Aside0.mk (below_step (by repeat (first | (with_reducible first | exact HB.out | apply below_alloc | apply pw_below_drewN | apply below_drew1) | exact HB.out)) hb); clear HO_10; clear HO_11; clear HO114; clear HO120; clear HB; have HO_10 := n0_; have HO_11 := n1_; have HO114 := n2_; have HO120 := n3_; have HO123 := n4_; have HB := n5_; clear n0_ n1_ n2_ n3_ n4_ n5_; (try clear hb); (try clear hb2); (try clear hk); (try clear hi); (try clear ho0); have q35 : ((ji26) : Int) ≤ ((t105.length : Int) : Int) := of_decide_eq_true (by first | (with_reducible assumption) | assumption); obtain ⟨i035, hi035, _, hsz35, _⟩ := info_parts info3; have hroom35 : t105.length ≤ co17 := (Kd.R_reads' HO_10.out).2.1; have hC35 : Kd.F (Kd.int .i64) _ _ Ao17 t105.length t105 := (Kd.V_at (base := w.heap.size) (Kd.R_V (Kd.R_apart' (Kd.R_apart' (HO_10.out) (Kd.N_typed HO114.out) (by decide)) (Kd.N_typed HO123.out) (by decide)))).2.2; have hcut35 := cut_to (P := Try.prog) 34 3 .i64 Try.underlying34 hi035 Ao17 t105.length co17 (ji26) (of_decide_eq_true (by first | (with_reducible assumption) | assumption)) q35 hroom35; have hr35 := Kd.F_take (m := ((ji26) : Int).toNat) hC35 (by omega); have hy35 : y125.length = ((ji26) : Int).toNat := (by rw [Ny125.out, List.length_take]; omega); rw [← Ny125.out] at hr35; rw [← hy35] at hcut35; have HO129 := Aside0.mk (show Kd.V (Kd.int .i64) 3 _ w.heap.size _ (.slice Ao17 y125.length co17) y125 from Kd.V_mk (by omega) hr35); have HC129 := Aside0.mk (show y125.length ≤ co17 from by omega); clear hr35 hC35 hroom35 hi035 hsz35; have KY35 := Aside0.mk hy35; clear hy35; replace q35 := eq_true q35) | ((with_reducible refine gate_callee (f := 22) rfl ?_); refine goesL_ (some 86) rfl rfl Try.func22 (by kernel_rfl) rfl #[.int .i64 x9_8, .int .i64 t102, .int .i64 t103, .slice Ao17 y125.length co17, .slice Ao31 t108.length co31] rfl (by (try simp only [List.map_toArray, List.map_cons, List.map_nil]); first | done | rfl | (simp only [tb_wrap8]; done) | (simp only [tb_wrap8]; rfl) | (simp only [List.length_drop, List.length_take]; rfl)) ?_; (with_reducible refine (gener_Decoder.calls kj14 x9_8 t102 t103 _ _ y125 _ _ t108 t130 t133 _ ?side1 ?side2 ?side3 ?side4 A29.out).mono ?_); (case side1 => repeat (first | exact (Kd.V_reads' HO129.out).2.2 | (with_reducible refine Kd.C_alloc ?_ _) | (with_reducible refine Kd.C_drewN ?_ _) | (with_reducible refine Kd.C_drew ?_))); (case side2 => exact (Kd.V_reads' HO129.out).2.1); (case side3 => repeat (first | exact (Kd.R_reads' HO_11.out).2.2 | (with_reducible refine Kd.C_alloc ?_ _) | (with_reducible refine Kd.C_drewN ?_ _) | (with_reducible refine Kd.C_drew ?_))); (case side4 => exact (Kd.R_reads' HO_11.out).2.1); rintro e w36 ⟨v131, rfl, ho0, hb⟩; refine ⟨_, rfl, ?_⟩; have n0_ := Aside0.mk (Kd.R_below (by (with_reducible repeat (first | apply Kd.R_alloc | apply Kd.R_drewN | apply Kd.R_drew)); exact HO_10.out) hb); have n1_ := Aside0.mk (Kd.R_below (by (with_reducible repeat (first | apply Kd.R_alloc | apply Kd.R_drewN | apply Kd.R_drew)); exact HO_11.out) hb); have n2_ := Aside0.mk (Kd.N_elder' (by (with_reducible repeat (first | apply Kd.N_alloc | apply Kd.N_drewN | apply Kd.N_drew)); exact HO114.out) (by first | exact Kd.N_base ho0 | exact Kd.S_base ho0) hb); have n3_ := Aside0.mk (Kd.V_elder' (by (with_reducible repeat (first | apply Kd.V_alloc | apply Kd.V_drewN | apply Kd.V_drew)); exact HO120.out) (by first | exact Kd.N_base ho0 | exact Kd.S_base ho0) hb); have n4_ := Aside0.mk (Kd.N_elder' (by (with_reducible repeat (first | apply Kd.N_alloc | apply Kd.N_drewN | apply Kd.N_drew)); exact HO123.out) (by first | exact Kd.N_base ho0 | exact Kd.S_base ho0) hb); have n5_ := Aside0.mk (Kd.V_elder' (by (with_reducible repeat (first | apply Kd.V_alloc | apply Kd.V_drewN | apply Kd.V_drew)); exact HO129.out) (by first | exact Kd.N_base ho0 | exact Kd.S_base ho0) hb); have n6_ := Aside0.mk (Kd.N_lower (Kd.N_mono (ok' := fun k_ => some k_ ≠ (.slice Ao17 t105.length co17 : Value).ownBlock ∧ some k_ ≠ (.slice Ao31 t108.length co31 : Value).ownBlock ∧ some k_ ≠ (v113 : Value).ownBlock ∧ some k_ ≠ (v122 : Value).ownBlock) ho0 (fun k_ hk_ => ⟨(Kd.fresh' (Kd.R_lt (by (with_reducible repeat (first | apply Kd.R_alloc | apply Kd.R_drewN | apply Kd.R_drew)); exact HO_10.out)) k_ hk_), (Kd.fresh' (Kd.R_lt (by (with_reducible repeat (first | apply Kd.R_alloc | apply Kd.R_drewN | apply Kd.R_drew)); exact HO_11.out)) k_ hk_), (Kd.fresh' (Kd.N_lt (by (with_reducible repeat (first | apply Kd.N_alloc | apply Kd.N_drewN | apply Kd.N_drew)); exact HO114.out)) k_ hk_), (Kd.fresh' (Kd.N_lt (by (with_reducible repeat (first | apply Kd.N_alloc | apply Kd.N_drewN | apply Kd.N_drew)); exact HO123.out)) k_ hk_)⟩)) (below_size (by repeat (first | (with_reducible first | exact HB.out | apply below_alloc | apply pw_below_drewN | apply below_drew1) | exact HB.out)))); have n7_ := Aside0.mk (below_step (by repeat (first | (with_reducible first | exact HB.out | apply below_alloc | apply pw_below_drewN | apply below_drew1) | exact HB.out)) hb); clear HO_10; clear HO_11; clear HO114; clear HO120; clear HO123; clear HO129; clear HB; have HO_10 := n0_; have HO_11 := n1_; have HO114 := n2_; have HO120 := n3_; have HO123 := n4_; have HO129 := n5_; have HO132 := n6_; have HB := n7_; clear n0_ n1_ n2_ n3_ n4_ n5_ n6_ n7_; (try clear hb); (try clear hb2); (try clear hk); (try clear hi); (try clear ho0)))
           (try simp only [Act.put, List.setIfInBounds_toArray, List.set_cons_zero, List.set_cons_succ])
           go_cut [116] (fun v116 wc => ∃ (kq : Nat) (x116_29 : Bool), v116 = .bool x116_29 ∧ Aside0 (culletlaw11_GenerMore.j2 kq t102 t103 x9_8 x116_29 = some r) ∧ Aside0 (kq ≤ kj14) ∧ Aside0 (Below w.heap.size w wc))
           case first =>
            have H := HC30.out
            clear HC30
            by_cases c37 : t115 = 0
            ·rw [if_pos c37] at H
             have c37b0 : (t115 == 0) = true := beq_iff_eq.mpr c37
             have c37b1 : (t115 != 0) = false := bne_eq_false_iff_eq.mpr c37
             clear c37
             (first | rw [c37b0] | (simp only [i64_w, i32_w]; rw [c37b0]) | skip)
             by_cases c38 : t124 = 0
             ·rw [if_pos c38] at H
              have c38b0 : (t124 == 0) = true := beq_iff_eq.mpr c38
              have c38b1 : (t124 != 0) = false := bne_eq_false_iff_eq.mpr c38
              clear c38
              by_cases c39 : t133 = 9
              ·rw [if_pos c39] at H
               have c39b0 : (t133 == 9) = true := beq_iff_eq.mpr c39
               have c39b1 : (t133 != 9) = false := bne_eq_false_iff_eq.mpr c39
               clear c39
               by_cases c40 : (t130.length : Int) = 0
               ·rw [if_pos c40] at H
                have c40b0 : ((t130.length : Int) == 0) = true := beq_iff_eq.mpr c40
                have c40b1 : ((t130.length : Int) != 0) = false := bne_eq_false_iff_eq.mpr c40
                clear c40
                replace H := Option.bind_eq_some_iff.mp H
                obtain ⟨t134, A410, H⟩ := H
                replace H : (if t134 = true then (culletlaw11_GenerMore.j2 kj14 t102 t103 x9_8 ((t112.length : Int) != (t108.length : Int))) else (culletlaw11_GenerMore.j2 kj14 t102 t103 x9_8 true)) = some r := H
                have A41 := Aside0.mk A410
                clear A410
                by_cases c42 : t134 = true
                ·subst c42
                 have H1 : (culletlaw11_GenerMore.j2 kj14 t102 t103 x9_8 ((t112.length : Int) != (t108.length : Int))) = some r := by rw [if_pos rfl] at H; exact H
                 clear H
                 have H := H1
                 clear H1
                 have H' := Aside0.mk H
                 clear H
                 obtain ⟨Ao43, co43, eo43⟩ := Kd.N_slice HO132.out
                 subst eo43
                 obtain ⟨Ao44, co44, eo44⟩ := Kd.N_slice HO114.out
                 subst eo44
                 obtain ⟨Ao45, co45, eo45⟩ := Kd.N_slice HO123.out
                 subst eo45
                 go_wp2_with (first | (go_at_call 24; (with_reducible refine (culletlaw11_equal.calls kj14 _ _ t112 _ _ t121 true _ ?side1 ?side2 ?side3 ?side4 A41.out).mono ?_); (case side1 => repeat (first | exact (Kd.N_reads' HO114.out).2.2 | (with_reducible refine Kd.C_alloc ?_ _) | (with_reducible refine Kd.C_drewN ?_ _) | (with_reducible refine Kd.C_drew ?_))); (case side2 => exact (Kd.N_reads' HO114.out).2.1); (case side3 => repeat (first | exact (Kd.N_reads' HO123.out).2.2 | (with_reducible refine Kd.C_alloc ?_ _) | (with_reducible refine Kd.C_drewN ?_ _) | (with_reducible refine Kd.C_drew ?_))); (case side4 => exact (Kd.N_reads' HO123.out).2.1); rintro e w' ⟨rfl, ⟨nd, rfl⟩⟩))
                 go_meet
                 case rel => exact ⟨_, (((t112.length : Int) != (t108.length : Int))), (by first | rfl | (simp; done) | (simp [*]; done)), H', ⟨by have := HJ8.out; have := HJ14.out; first | omega | exact Nat.le_refl _⟩, ⟨by repeat (first | (with_reducible first | exact HB.out | apply below_alloc | apply pw_below_drewN | apply below_drew1) | exact HB.out)⟩⟩
                ·replace c42 := Bool.eq_false_iff.mpr c42
                 subst c42
                 have H1 : (culletlaw11_GenerMore.j2 kj14 t102 t103 x9_8 true) = some r := by rw [if_neg (show ¬ (false = true) by decide)] at H; exact H
                 clear H
                 have H := H1
                 clear H1
                 have H' := Aside0.mk H
                 clear H
                 obtain ⟨Ao46, co46, eo46⟩ := Kd.N_slice HO132.out
                 subst eo46
                 obtain ⟨Ao47, co47, eo47⟩ := Kd.N_slice HO114.out
                 subst eo47
                 obtain ⟨Ao48, co48, eo48⟩ := Kd.N_slice HO123.out
                 subst eo48
                 go_wp2_with (first | (go_at_call 24; (with_reducible refine (culletlaw11_equal.calls kj14 _ _ t112 _ _ t121 false _ ?side1 ?side2 ?side3 ?side4 A41.out).mono ?_); (case side1 => repeat (first | exact (Kd.N_reads' HO114.out).2.2 | (with_reducible refine Kd.C_alloc ?_ _) | (with_reducible refine Kd.C_drewN ?_ _) | (with_reducible refine Kd.C_drew ?_))); (case side2 => exact (Kd.N_reads' HO114.out).2.1); (case side3 => repeat (first | exact (Kd.N_reads' HO123.out).2.2 | (with_reducible refine Kd.C_alloc ?_ _) | (with_reducible refine Kd.C_drewN ?_ _) | (with_reducible refine Kd.C_drew ?_))); (case side4 => exact (Kd.N_reads' HO123.out).2.1); rintro e w' ⟨rfl, ⟨nd, rfl⟩⟩))
                 go_meet
                 case rel => exact ⟨_, (true), (by first | rfl | (simp; done) | (simp [*]; done)), H', ⟨by have := HJ8.out; have := HJ14.out; first | omega | exact Nat.le_refl _⟩, ⟨by repeat (first | (with_reducible first | exact HB.out | apply below_alloc | apply pw_below_drewN | apply below_drew1) | exact HB.out)⟩⟩
               ·rw [if_neg c40] at H
                have c40b0 : ((t130.length : Int) == 0) = false := beq_eq_false_iff_ne.mpr c40
                have c40b1 : ((t130.length : Int) != 0) = true := bne_iff_ne.mpr c40
                have c40b2 : ¬ (t130 = []) := fun h_ => c40 (by rw [h_]; rfl)
                have H' := Aside0.mk H
                clear H
                obtain ⟨Ao49, co49, eo49⟩ := Kd.N_slice HO132.out
                subst eo49
                go_wp2
                go_meet
                case rel => exact ⟨_, (true), (by first | rfl | (simp; done) | (simp [*]; done)), H', ⟨by have := HJ8.out; have := HJ14.out; first | omega | exact Nat.le_refl _⟩, ⟨by repeat (first | (with_reducible first | exact HB.out | apply below_alloc | apply pw_below_drewN | apply below_drew1) | exact HB.out)⟩⟩
              ·rw [if_neg c39] at H
               have c39b0 : (t133 == 9) = false := beq_eq_false_iff_ne.mpr c39
               have c39b1 : (t133 != 9) = true := bne_iff_ne.mpr c39
               have H' := Aside0.mk H
               clear H
               go_wp2
               go_meet
               case rel => exact ⟨_, (true), (by first | rfl | (simp; done) | (simp [*]; done)), H', ⟨by have := HJ8.out; have := HJ14.out; first | omega | exact Nat.le_refl _⟩, ⟨by repeat (first | (with_reducible first | exact HB.out | apply below_alloc | apply pw_below_drewN | apply below_drew1) | exact HB.out)⟩⟩
             ·rw [if_neg c38] at H
              have c38b0 : (t124 == 0) = false := beq_eq_false_iff_ne.mpr c38
              have c38b1 : (t124 != 0) = true := bne_iff_ne.mpr c38
              have H' := Aside0.mk H
              clear H
              go_wp2
              go_meet
              case rel => exact ⟨_, (true), (by first | rfl | (simp; done) | (simp [*]; done)), H', ⟨by have := HJ8.out; have := HJ14.out; first | omega | exact Nat.le_refl _⟩, ⟨by repeat (first | (with_reducible first | exact HB.out | apply below_alloc | apply pw_below_drewN | apply below_drew1) | exact HB.out)⟩⟩
            ·rw [if_neg c37] at H
             have c37b0 : (t115 == 0) = false := beq_eq_false_iff_ne.mpr c37
             have c37b1 : (t115 != 0) = true := bne_iff_ne.mpr c37
             (first | rw [c37b0] | (simp only [i64_w, i32_w]; rw [c37b0]) | skip)
             have H' := Aside0.mk H
             clear H
             go_wp2
             go_meet
             case rel => exact ⟨_, (true), (by first | rfl | (simp; done) | (simp [*]; done)), H', ⟨by have := HJ8.out; have := HJ14.out; first | omega | exact Nat.le_refl _⟩, ⟨by repeat (first | (with_reducible first | exact HB.out | apply below_alloc | apply pw_below_drewN | apply below_drew1) | exact HB.out)⟩⟩
           case rest =>
            clear HC30
            try clear c1
            try clear c2
            try clear p2
            try clear c3
            try clear q3
            try clear c4
            try clear c6
            try clear p6
            try clear p8
            try clear c11
            try clear c15
            try clear c16
            try clear c19
            try clear c19b0
            try clear c19b1
            try clear c21
            try clear c22
            try clear c23
            try clear c23b0
            try clear c23b1
            try clear c24
            try clear c24b0
            try clear c24b1
            try clear c27
            try clear c27b0
            try clear c27b1
            try clear c28
            try clear c28b0
            try clear c28b1
            try clear q33
            try clear q35
            try clear c37
            try clear c37b0
            try clear c37b1
            try clear c38
            try clear c38b0
            try clear c38b1
            try clear c39
            try clear c39b0
            try clear c39b1
            try clear c40
            try clear c40b0
            try clear c40b1
            try clear c40b2
            try clear c42
            try clear p2
            try clear p6
            try clear p8
            try clear q33
            try clear q35
            obtain ⟨kq, x116_29, rfl, HA, HJ29, HB⟩ := hcut
            cases kq with
            | zero => exact absurd HA.out (by simp [culletlaw11_GenerMore.j2])
            | succ kj29 =>
             have H := HA.out
             clear HA
             simp only [culletlaw11_GenerMore.j2] at H
             by_cases c50 : x116_29 = true
             ·subst c50
              have H1 : (some false) = some r := by rw [if_pos rfl] at H; exact H
              clear H
              have H := H1
              clear H1
              obtain rfl := Option.some.inj H
              go_wp2
              go_ret
              exact ⟨by first | rfl | (simp [errW_none, errW_some] <;> rfl) | (simp only [← hji26]; first | rfl | (simp [errW_none, errW_some] <;> rfl)) | (simp [*, errW_none, errW_some] <;> rfl), by repeat (first | (with_reducible first | exact HB.out | apply below_alloc | apply pw_below_drewN | apply below_drew1) | exact HB.out)⟩
             ·replace c50 := Bool.eq_false_iff.mpr c50
              subst c50
              have H1 : ((gener_Parity.f kj29 x9_8 t102 t103).bind fun bt135 => ((gener_Generator.f kj29 x9_8 t102 t103).bind fun bt139 => (if bt135.2 = 0 then (if bt139.2 = 0 then (if (bt139.1.length : Int) = (wrap64 (t102 + t103)) then (if (bt135.1.length : Int) = t103 then (if 0 ≤ t102 then (if t102 ≤ (bt139.1.length : Int) then ((culletlaw11_equal.f kj29 (bt139.1.drop (t102 : Int).toNat) bt135.1).bind fun t148 => (some t148)) else (none)) else (none)) else (some false)) else (some false)) else (some false)) else (some false)))) = some r := by rw [if_neg (show ¬ (false = true) by decide)] at H; exact H
              clear H
              have H := H1
              clear H1
              replace H := Option.bind_eq_some_iff.mp H
              obtain ⟨⟨t135, t136⟩, A510, H⟩ := H
              replace H : ((gener_Generator.f kj29 x9_8 t102 t103).bind fun bt139 => (if t136 = 0 then (if bt139.2 = 0 then (if (bt139.1.length : Int) = (wrap64 (t102 + t103)) then (if (t135.length : Int) = t103 then (if 0 ≤ t102 then (if t102 ≤ (bt139.1.length : Int) then ((culletlaw11_equal.f kj29 (bt139.1.drop (t102 : Int).toNat) t135).bind fun t148 => (some t148)) else (none)) else (none)) else (some false)) else (some false)) else (some false)) else (some false))) = some r := H
              have A51 := Aside0.mk A510
              clear A510
              replace H := Option.bind_eq_some_iff.mp H
              obtain ⟨⟨t139, t142⟩, A520, H⟩ := H
              replace H : (if t136 = 0 then (if t142 = 0 then (if (t139.length : Int) = (wrap64 (t102 + t103)) then (if (t135.length : Int) = t103 then (if 0 ≤ t102 then (if t102 ≤ (t139.length : Int) then ((culletlaw11_equal.f kj29 (t139.drop (t102 : Int).toNat) t135).bind fun t148 => (some t148)) else (none)) else (none)) else (some false)) else (some false)) else (some false)) else (some false)) = some r := H
              have A52 := Aside0.mk A520
              clear A520
              by_cases c53 : t136 = 0
              ·rw [if_pos c53] at H
               have c53b0 : (t136 == 0) = true := beq_iff_eq.mpr c53
               have c53b1 : (t136 != 0) = false := bne_eq_false_iff_eq.mpr c53
               clear c53
               by_cases c54 : t142 = 0
               ·rw [if_pos c54] at H
                have c54b0 : (t142 == 0) = true := beq_iff_eq.mpr c54
                have c54b1 : (t142 != 0) = false := bne_eq_false_iff_eq.mpr c54
                clear c54
                by_cases c55 : (t139.length : Int) = (wrap64 (t102 + t103))
                ·rw [if_pos c55] at H
                 have c55b0 : ((t139.length : Int) == (wrap64 (t102 + t103))) = true := beq_iff_eq.mpr c55
                 have c55b1 : ((t139.length : Int) != (wrap64 (t102 + t103))) = false := bne_eq_false_iff_eq.mpr c55
                 clear c55
                 by_cases c56 : (t135.length : Int) = t103
                 ·rw [if_pos c56] at H
                  have c56b0 : ((t135.length : Int) == t103) = true := beq_iff_eq.mpr c56
                  have c56b1 : ((t135.length : Int) != t103) = false := bne_eq_false_iff_eq.mpr c56
                  clear c56
                  by_cases c57 : 0 ≤ t102
                  ·rw [if_pos c57] at H
                   have c57b0 := eq_true c57
                   have c57b1 : decide (0 ≤ t102) = true := decide_eq_true c57
                   clear c57
                   by_cases c58 : t102 ≤ (t139.length : Int)
                   ·rw [if_pos c58] at H
                    have c58b0 := eq_true c58
                    have c58b1 : decide (t102 ≤ (t139.length : Int)) = true := decide_eq_true c58
                    clear c58
                    obtain ⟨y143, hy143⟩ : ∃ y_ : List (List Int), y_ = (t139.drop (t102 : Int).toNat) := ⟨_, rfl⟩
                    replace H : ((culletlaw11_equal.f kj29 y143 t135).bind fun t148 => (some t148)) = some r := by first | (rw [hy143]; with_reducible exact H) | (have H2_ := (Option.bind_some _ _).symm.trans H; rw [hy143]; with_reducible exact H2_) | (have H2_ := (Option.bind_some _ _).symm.trans H; with_reducible exact H2_) | with_reducible exact H | (rw [hy143]; exact H) | exact H
                    have Ny143 := Aside0.mk hy143
                    clear hy143
                    replace H := Option.bind_eq_some_iff.mp H
                    obtain ⟨t148, A590, H⟩ := H
                    replace H : (some t148) = some r := H
                    have A59 := Aside0.mk A590
                    clear A590
                    obtain rfl := Option.some.inj H
                    go_wp2_with (first | ((with_reducible refine gate_callee (f := 17) rfl ?_); refine goesL_ (some 121) rfl rfl Try.func17 (by kernel_rfl) rfl #[.int .i64 x9_8, .int .i64 t102, .int .i64 t103] rfl (by (try simp only [List.map_toArray, List.map_cons, List.map_nil]); first | done | rfl | (simp only [tb_wrap8]; done) | (simp only [tb_wrap8]; rfl) | (simp only [List.length_drop, List.length_take]; rfl)) ?_; (with_reducible refine (gener_Parity.calls kj29 x9_8 t102 t103 t135 t136 _ A51.out).mono ?_); rintro e w60 ⟨v137, rfl, ho0, hb⟩; refine ⟨_, rfl, ?_⟩; have n0_ := Aside0.mk (Kd.Q_lower ho0 (below_size (by repeat (first | (with_reducible first | exact HB.out | apply below_alloc | apply pw_below_drewN | apply below_drew1) | exact HB.out)))); have n1_ := Aside0.mk (below_step (by repeat (first | (with_reducible first | exact HB.out | apply below_alloc | apply pw_below_drewN | apply below_drew1) | exact HB.out)) hb); clear HB; have HO138 := n0_; have HB := n1_; clear n0_ n1_; (try clear hb); (try clear hb2); (try clear hk); (try clear hi); (try clear ho0)) | ((with_reducible refine gate_callee (f := 20) rfl ?_); refine goesL_ (some 128) rfl rfl Try.func20 (by kernel_rfl) rfl #[.int .i64 x9_8, .int .i64 t102, .int .i64 t103] rfl (by (try simp only [List.map_toArray, List.map_cons, List.map_nil]); first | done | rfl | (simp only [tb_wrap8]; done) | (simp only [tb_wrap8]; rfl) | (simp only [List.length_drop, List.length_take]; rfl)) ?_; (with_reducible refine (gener_Generator.calls kj29 x9_8 t102 t103 t139 t142 _ A52.out).mono ?_); rintro e w61 ⟨v140, rfl, ho0, hb⟩; refine ⟨_, rfl, ?_⟩; have n0_ := Aside0.mk (Kd.Q_elder' (by (with_reducible repeat (first | apply Kd.Q_alloc | apply Kd.Q_drewN | apply Kd.Q_drew)); exact HO138.out) (by first | exact Kd.N_base ho0 | exact Kd.S_base ho0) hb); have n1_ := Aside0.mk (Kd.N_lower (Kd.N_mono (ok' := fun k_ => some k_ ≠ (v137 : Value).ownBlock) ho0 (fun k_ hk_ => (Kd.fresh' (Kd.Q_lt (by (with_reducible repeat (first | apply Kd.Q_alloc | apply Kd.Q_drewN | apply Kd.Q_drew)); exact HO138.out)) k_ hk_))) (below_size (by repeat (first | (with_reducible first | exact HB.out | apply below_alloc | apply pw_below_drewN | apply below_drew1) | exact HB.out)))); have n2_ := Aside0.mk (below_step (by repeat (first | (with_reducible first | exact HB.out | apply below_alloc | apply pw_below_drewN | apply below_drew1) | exact HB.out)) hb); clear HO138; clear HB; have HO138 := n0_; have HO141 := n1_; have HB := n2_; clear n0_ n1_ n2_; (try clear hb); (try clear hb2); (try clear hk); (try clear hi); (try clear ho0); obtain ⟨Ao62, co62, eo62⟩ := Kd.N_slice HO141.out; subst eo62; obtain ⟨Ao63, co63, eo63, _⟩ := Kd.Q_slice HO138.out; subst eo63; have q64 : (t102 : Int) ≤ ((t139.length : Int) : Int) := of_decide_eq_true (by first | (with_reducible assumption) | assumption); obtain ⟨i064, hi064, _, hsz64, _⟩ := info_parts info22; have hroom64 : t139.length ≤ co62 := (Kd.N_reads' HO141.out).2.1; have hC64 : Kd.F (Kd.slice 5 (Kd.int .u8)) _ _ Ao62 t139.length t139 := (Kd.V_at (base := w.heap.size) (Kd.N_V HO141.out)).2.2; have q064 : (0 : Int) ≤ (t102 : Int) := of_decide_eq_true (by first | (with_reducible assumption) | assumption); have hcut64 := cut_from (P := Try.prog) 25 22 .i64 Try.underlying25 hi064 1 hsz64 Ao62 t139.length co62 t102 q064 q64; have hr64 := Kd.F_cut (m := (t102 : Int).toNat) (c := co62) hC64 (by omega) hroom64; obtain ⟨A64, hA64⟩ : ∃ A1, A1 = (if co62 = (t102 : Int).toNat then Ao62 else (Ao62 : Option Addr).map (·.add ((t102 : Int).toNat * 1))) := ⟨_, rfl⟩; obtain ⟨c64, hc64⟩ : ∃ c1, c1 = co62 - (t102 : Int).toNat := ⟨_, rfl⟩; have hy64 : y143.length = t139.length - (t102 : Int).toNat := (by rw [Ny143.out, List.length_drop] <;> omega); rw [show (t139).drop (t102 : Int).toNat = y143 from Ny143.out.symm] at hr64; replace hr64 : Kd.F (Kd.slice 5 (Kd.int .u8)) _ _ A64 y143.length y143 := (by rw [hA64]; exact hr64); rw [← hy64, ← hA64, ← hc64] at hcut64; have HO147 := Aside0.mk (show Kd.V (Kd.slice 5 (Kd.int .u8)) 22 _ w.heap.size _ (.slice A64 y143.length c64) y143 from Kd.V_mk (by rw [hy64, hc64]; exact Nat.sub_le_sub_right hroom64 _) hr64); have HC147 := Aside0.mk (show y143.length ≤ c64 from by rw [hy64, hc64]; exact Nat.sub_le_sub_right hroom64 _); clear hr64 hC64 hroom64 hi064 hsz64 hc64; have KY64 := Aside0.mk hy64; have KA64 := Aside0.mk hA64; clear hy64 hA64; replace q64 := eq_true q64) | (go_at_call 24; (with_reducible refine (culletlaw11_equal.calls kj29 _ _ y143 _ _ t135 t148 _ ?side1 ?side2 ?side3 ?side4 A59.out).mono ?_); (case side1 => repeat (first | exact (Kd.V_reads' HO147.out).2.2 | (with_reducible refine Kd.C_alloc ?_ _) | (with_reducible refine Kd.C_drewN ?_ _) | (with_reducible refine Kd.C_drew ?_))); (case side2 => exact (Kd.V_reads' HO147.out).2.1); (case side3 => repeat (first | exact (Kd.Q_reads' HO138.out).2.2 | (with_reducible refine Kd.C_alloc ?_ _) | (with_reducible refine Kd.C_drewN ?_ _) | (with_reducible refine Kd.C_drew ?_))); (case side4 => exact (Kd.Q_reads' HO138.out).2.1); rintro e w' ⟨rfl, ⟨nd, rfl⟩⟩))
                    go_ret
                    exact ⟨by first | rfl | (simp [errW_none, errW_some] <;> rfl) | (simp only [← hji26]; first | rfl | (simp [errW_none, errW_some] <;> rfl)) | (simp [*, errW_none, errW_some] <;> rfl), by repeat (first | (with_reducible first | exact HB.out | apply below_alloc | apply pw_below_drewN | apply below_drew1) | exact HB.out)⟩
                   ·rw [if_neg c58] at H
                    exact absurd H (by simp)
                  ·rw [if_neg c57] at H
                   exact absurd H (by simp)
                 ·rw [if_neg c56] at H
                  have c56b0 : ((t135.length : Int) == t103) = false := beq_eq_false_iff_ne.mpr c56
                  have c56b1 : ((t135.length : Int) != t103) = true := bne_iff_ne.mpr c56
                  obtain rfl := Option.some.inj H
                  go_wp2_with (first | ((with_reducible refine gate_callee (f := 17) rfl ?_); refine goesL_ (some 121) rfl rfl Try.func17 (by kernel_rfl) rfl #[.int .i64 x9_8, .int .i64 t102, .int .i64 t103] rfl (by (try simp only [List.map_toArray, List.map_cons, List.map_nil]); first | done | rfl | (simp only [tb_wrap8]; done) | (simp only [tb_wrap8]; rfl) | (simp only [List.length_drop, List.length_take]; rfl)) ?_; (with_reducible refine (gener_Parity.calls kj29 x9_8 t102 t103 t135 t136 _ A51.out).mono ?_); rintro e w65 ⟨v137, rfl, ho0, hb⟩; refine ⟨_, rfl, ?_⟩; have n0_ := Aside0.mk (Kd.Q_lower ho0 (below_size (by repeat (first | (with_reducible first | exact HB.out | apply below_alloc | apply pw_below_drewN | apply below_drew1) | exact HB.out)))); have n1_ := Aside0.mk (below_step (by repeat (first | (with_reducible first | exact HB.out | apply below_alloc | apply pw_below_drewN | apply below_drew1) | exact HB.out)) hb); clear HB; have HO138 := n0_; have HB := n1_; clear n0_ n1_; (try clear hb); (try clear hb2); (try clear hk); (try clear hi); (try clear ho0)) | ((with_reducible refine gate_callee (f := 20) rfl ?_); refine goesL_ (some 128) rfl rfl Try.func20 (by kernel_rfl) rfl #[.int .i64 x9_8, .int .i64 t102, .int .i64 t103] rfl (by (try simp only [List.map_toArray, List.map_cons, List.map_nil]); first | done | rfl | (simp only [tb_wrap8]; done) | (simp only [tb_wrap8]; rfl) | (simp only [List.length_drop, List.length_take]; rfl)) ?_; (with_reducible refine (gener_Generator.calls kj29 x9_8 t102 t103 t139 t142 _ A52.out).mono ?_); rintro e w66 ⟨v140, rfl, ho0, hb⟩; refine ⟨_, rfl, ?_⟩; have n0_ := Aside0.mk (Kd.Q_elder' (by (with_reducible repeat (first | apply Kd.Q_alloc | apply Kd.Q_drewN | apply Kd.Q_drew)); exact HO138.out) (by first | exact Kd.N_base ho0 | exact Kd.S_base ho0) hb); have n1_ := Aside0.mk (Kd.N_lower (Kd.N_mono (ok' := fun k_ => some k_ ≠ (v137 : Value).ownBlock) ho0 (fun k_ hk_ => (Kd.fresh' (Kd.Q_lt (by (with_reducible repeat (first | apply Kd.Q_alloc | apply Kd.Q_drewN | apply Kd.Q_drew)); exact HO138.out)) k_ hk_))) (below_size (by repeat (first | (with_reducible first | exact HB.out | apply below_alloc | apply pw_below_drewN | apply below_drew1) | exact HB.out)))); have n2_ := Aside0.mk (below_step (by repeat (first | (with_reducible first | exact HB.out | apply below_alloc | apply pw_below_drewN | apply below_drew1) | exact HB.out)) hb); clear HO138; clear HB; have HO138 := n0_; have HO141 := n1_; have HB := n2_; clear n0_ n1_ n2_; (try clear hb); (try clear hb2); (try clear hk); (try clear hi); (try clear ho0); obtain ⟨Ao67, co67, eo67⟩ := Kd.N_slice HO141.out; subst eo67; obtain ⟨Ao68, co68, eo68, _⟩ := Kd.Q_slice HO138.out; subst eo68))
                  go_ret
                  exact ⟨by first | rfl | (simp [errW_none, errW_some] <;> rfl) | (simp only [← hji26]; first | rfl | (simp [errW_none, errW_some] <;> rfl)) | (simp [*, errW_none, errW_some] <;> rfl), by repeat (first | (with_reducible first | exact HB.out | apply below_alloc | apply pw_below_drewN | apply below_drew1) | exact HB.out)⟩
                ·rw [if_neg c55] at H
                 have c55b0 : ((t139.length : Int) == (wrap64 (t102 + t103))) = false := beq_eq_false_iff_ne.mpr c55
                 have c55b1 : ((t139.length : Int) != (wrap64 (t102 + t103))) = true := bne_iff_ne.mpr c55
                 obtain rfl := Option.some.inj H
                 go_wp2_with (first | ((with_reducible refine gate_callee (f := 17) rfl ?_); refine goesL_ (some 121) rfl rfl Try.func17 (by kernel_rfl) rfl #[.int .i64 x9_8, .int .i64 t102, .int .i64 t103] rfl (by (try simp only [List.map_toArray, List.map_cons, List.map_nil]); first | done | rfl | (simp only [tb_wrap8]; done) | (simp only [tb_wrap8]; rfl) | (simp only [List.length_drop, List.length_take]; rfl)) ?_; (with_reducible refine (gener_Parity.calls kj29 x9_8 t102 t103 t135 t136 _ A51.out).mono ?_); rintro e w69 ⟨v137, rfl, ho0, hb⟩; refine ⟨_, rfl, ?_⟩; have n0_ := Aside0.mk (Kd.Q_lower ho0 (below_size (by repeat (first | (with_reducible first | exact HB.out | apply below_alloc | apply pw_below_drewN | apply below_drew1) | exact HB.out)))); have n1_ := Aside0.mk (below_step (by repeat (first | (with_reducible first | exact HB.out | apply below_alloc | apply pw_below_drewN | apply below_drew1) | exact HB.out)) hb); clear HB; have HO138 := n0_; have HB := n1_; clear n0_ n1_; (try clear hb); (try clear hb2); (try clear hk); (try clear hi); (try clear ho0)) | ((with_reducible refine gate_callee (f := 20) rfl ?_); refine goesL_ (some 128) rfl rfl Try.func20 (by kernel_rfl) rfl #[.int .i64 x9_8, .int .i64 t102, .int .i64 t103] rfl (by (try simp only [List.map_toArray, List.map_cons, List.map_nil]); first | done | rfl | (simp only [tb_wrap8]; done) | (simp only [tb_wrap8]; rfl) | (simp only [List.length_drop, List.length_take]; rfl)) ?_; (with_reducible refine (gener_Generator.calls kj29 x9_8 t102 t103 t139 t142 _ A52.out).mono ?_); rintro e w70 ⟨v140, rfl, ho0, hb⟩; refine ⟨_, rfl, ?_⟩; have n0_ := Aside0.mk (Kd.Q_elder' (by (with_reducible repeat (first | apply Kd.Q_alloc | apply Kd.Q_drewN | apply Kd.Q_drew)); exact HO138.out) (by first | exact Kd.N_base ho0 | exact Kd.S_base ho0) hb); have n1_ := Aside0.mk (Kd.N_lower (Kd.N_mono (ok' := fun k_ => some k_ ≠ (v137 : Value).ownBlock) ho0 (fun k_ hk_ => (Kd.fresh' (Kd.Q_lt (by (with_reducible repeat (first | apply Kd.Q_alloc | apply Kd.Q_drewN | apply Kd.Q_drew)); exact HO138.out)) k_ hk_))) (below_size (by repeat (first | (with_reducible first | exact HB.out | apply below_alloc | apply pw_below_drewN | apply below_drew1) | exact HB.out)))); have n2_ := Aside0.mk (below_step (by repeat (first | (with_reducible first | exact HB.out | apply below_alloc | apply pw_below_drewN | apply below_drew1) | exact HB.out)) hb); clear HO138; clear HB; have HO138 := n0_; have HO141 := n1_; have HB := n2_; clear n0_ n1_ n2_; (try clear hb); (try clear hb2); (try clear hk); (try clear hi); (try clear ho0); obtain ⟨Ao71, co71, eo71⟩ := Kd.N_slice HO141.out; subst eo71))
                 go_ret
                 exact ⟨by first | rfl | (simp [errW_none, errW_some] <;> rfl) | (simp only [← hji26]; first | rfl | (simp [errW_none, errW_some] <;> rfl)) | (simp [*, errW_none, errW_some] <;> rfl), by repeat (first | (with_reducible first | exact HB.out | apply below_alloc | apply pw_below_drewN | apply below_drew1) | exact HB.out)⟩
               ·rw [if_neg c54] at H
                have c54b0 : (t142 == 0) = false := beq_eq_false_iff_ne.mpr c54
                have c54b1 : (t142 != 0) = true := bne_iff_ne.mpr c54
                obtain rfl := Option.some.inj H
                go_wp2_with (first | ((with_reducible refine gate_callee (f := 17) rfl ?_); refine goesL_ (some 121) rfl rfl Try.func17 (by kernel_rfl) rfl #[.int .i64 x9_8, .int .i64 t102, .int .i64 t103] rfl (by (try simp only [List.map_toArray, List.map_cons, List.map_nil]); first | done | rfl | (simp only [tb_wrap8]; done) | (simp only [tb_wrap8]; rfl) | (simp only [List.length_drop, List.length_take]; rfl)) ?_; (with_reducible refine (gener_Parity.calls kj29 x9_8 t102 t103 t135 t136 _ A51.out).mono ?_); rintro e w72 ⟨v137, rfl, ho0, hb⟩; refine ⟨_, rfl, ?_⟩; have n0_ := Aside0.mk (Kd.Q_lower ho0 (below_size (by repeat (first | (with_reducible first | exact HB.out | apply below_alloc | apply pw_below_drewN | apply below_drew1) | exact HB.out)))); have n1_ := Aside0.mk (below_step (by repeat (first | (with_reducible first | exact HB.out | apply below_alloc | apply pw_below_drewN | apply below_drew1) | exact HB.out)) hb); clear HB; have HO138 := n0_; have HB := n1_; clear n0_ n1_; (try clear hb); (try clear hb2); (try clear hk); (try clear hi); (try clear ho0)) | ((with_reducible refine gate_callee (f := 20) rfl ?_); refine goesL_ (some 128) rfl rfl Try.func20 (by kernel_rfl) rfl #[.int .i64 x9_8, .int .i64 t102, .int .i64 t103] rfl (by (try simp only [List.map_toArray, List.map_cons, List.map_nil]); first | done | rfl | (simp only [tb_wrap8]; done) | (simp only [tb_wrap8]; rfl) | (simp only [List.length_drop, List.length_take]; rfl)) ?_; (with_reducible refine (gener_Generator.calls kj29 x9_8 t102 t103 t139 t142 _ A52.out).mono ?_); rintro e w73 ⟨v140, rfl, ho0, hb⟩; refine ⟨_, rfl, ?_⟩; have n0_ := Aside0.mk (Kd.Q_elder' (by (with_reducible repeat (first | apply Kd.Q_alloc | apply Kd.Q_drewN | apply Kd.Q_drew)); exact HO138.out) (by first | exact Kd.N_base ho0 | exact Kd.S_base ho0) hb); have n1_ := Aside0.mk (Kd.N_lower (Kd.N_mono (ok' := fun k_ => some k_ ≠ (v137 : Value).ownBlock) ho0 (fun k_ hk_ => (Kd.fresh' (Kd.Q_lt (by (with_reducible repeat (first | apply Kd.Q_alloc | apply Kd.Q_drewN | apply Kd.Q_drew)); exact HO138.out)) k_ hk_))) (below_size (by repeat (first | (with_reducible first | exact HB.out | apply below_alloc | apply pw_below_drewN | apply below_drew1) | exact HB.out)))); have n2_ := Aside0.mk (below_step (by repeat (first | (with_reducible first | exact HB.out | apply below_alloc | apply pw_below_drewN | apply below_drew1) | exact HB.out)) hb); clear HO138; clear HB; have HO138 := n0_; have HO141 := n1_; have HB := n2_; clear n0_ n1_ n2_; (try clear hb); (try clear hb2); (try clear hk); (try clear hi); (try clear ho0)))
                go_ret
                exact ⟨by first | rfl | (simp [errW_none, errW_some] <;> rfl) | (simp only [← hji26]; first | rfl | (simp [errW_none, errW_some] <;> rfl)) | (simp [*, errW_none, errW_some] <;> rfl), by repeat (first | (with_reducible first | exact HB.out | apply below_alloc | apply pw_below_drewN | apply below_drew1) | exact HB.out)⟩
              ·rw [if_neg c53] at H
               have c53b0 : (t136 == 0) = false := beq_eq_false_iff_ne.mpr c53
               have c53b1 : (t136 != 0) = true := bne_iff_ne.mpr c53
               obtain rfl := Option.some.inj H
               go_wp2_with (first | ((with_reducible refine gate_callee (f := 17) rfl ?_); refine goesL_ (some 121) rfl rfl Try.func17 (by kernel_rfl) rfl #[.int .i64 x9_8, .int .i64 t102, .int .i64 t103] rfl (by (try simp only [List.map_toArray, List.map_cons, List.map_nil]); first | done | rfl | (simp only [tb_wrap8]; done) | (simp only [tb_wrap8]; rfl) | (simp only [List.length_drop, List.length_take]; rfl)) ?_; (with_reducible refine (gener_Parity.calls kj29 x9_8 t102 t103 t135 t136 _ A51.out).mono ?_); rintro e w74 ⟨v137, rfl, ho0, hb⟩; refine ⟨_, rfl, ?_⟩; have n0_ := Aside0.mk (Kd.Q_lower ho0 (below_size (by repeat (first | (with_reducible first | exact HB.out | apply below_alloc | apply pw_below_drewN | apply below_drew1) | exact HB.out)))); have n1_ := Aside0.mk (below_step (by repeat (first | (with_reducible first | exact HB.out | apply below_alloc | apply pw_below_drewN | apply below_drew1) | exact HB.out)) hb); clear HB; have HO138 := n0_; have HB := n1_; clear n0_ n1_; (try clear hb); (try clear hb2); (try clear hk); (try clear hi); (try clear ho0)) | ((with_reducible refine gate_callee (f := 20) rfl ?_); refine goesL_ (some 128) rfl rfl Try.func20 (by kernel_rfl) rfl #[.int .i64 x9_8, .int .i64 t102, .int .i64 t103] rfl (by (try simp only [List.map_toArray, List.map_cons, List.map_nil]); first | done | rfl | (simp only [tb_wrap8]; done) | (simp only [tb_wrap8]; rfl) | (simp only [List.length_drop, List.length_take]; rfl)) ?_; (with_reducible refine (gener_Generator.calls kj29 x9_8 t102 t103 t139 t142 _ A52.out).mono ?_); rintro e w75 ⟨v140, rfl, ho0, hb⟩; refine ⟨_, rfl, ?_⟩; have n0_ := Aside0.mk (Kd.Q_elder' (by (with_reducible repeat (first | apply Kd.Q_alloc | apply Kd.Q_drewN | apply Kd.Q_drew)); exact HO138.out) (by first | exact Kd.N_base ho0 | exact Kd.S_base ho0) hb); have n1_ := Aside0.mk (Kd.N_lower (Kd.N_mono (ok' := fun k_ => some k_ ≠ (v137 : Value).ownBlock) ho0 (fun k_ hk_ => (Kd.fresh' (Kd.Q_lt (by (with_reducible repeat (first | apply Kd.Q_alloc | apply Kd.Q_drewN | apply Kd.Q_drew)); exact HO138.out)) k_ hk_))) (below_size (by repeat (first | (with_reducible first | exact HB.out | apply below_alloc | apply pw_below_drewN | apply below_drew1) | exact HB.out)))); have n2_ := Aside0.mk (below_step (by repeat (first | (with_reducible first | exact HB.out | apply below_alloc | apply pw_below_drewN | apply below_drew1) | exact HB.out)) hb); clear HO138; clear HB; have HO138 := n0_; have HO141 := n1_; have HB := n2_; clear n0_ n1_ n2_; (try clear hb); (try clear hb2); (try clear hk); (try clear hi); (try clear ho0)))
               go_ret
               exact ⟨by first | rfl | (simp [errW_none, errW_some] <;> rfl) | (simp only [← hji26]; first | rfl | (simp [errW_none, errW_some] <;> rfl)) | (simp [*, errW_none, errW_some] <;> rfl), by repeat (first | (with_reducible first | exact HB.out | apply below_alloc | apply pw_below_drewN | apply below_drew1) | exact HB.out)⟩
          ·rw [if_neg c28] at H
           exact absurd H (by simp)
         ·rw [if_neg c27] at H
          exact absurd H (by simp)
        ·rw [if_neg c24] at H
         exact absurd H (by simp)
       ·rw [if_neg c23] at H
        exact absurd H (by simp)
 ·replace c6 := Bool.eq_false_iff.mpr c6
  subst c6
  have H1 : (some false) = some r := by rw [if_neg (show ¬ (false = true) by decide)] at H; exact H
  clear H
  have H := H1
  clear H1
  obtain rfl := Option.some.inj H
  go_enter Try.func6, Try.ntmps6
  go_wp2_with (first | ((with_reducible refine gate_callee (f := 15) rfl ?_); refine goesL_ (some 20) rfl rfl Try.func15 (by kernel_rfl) rfl #[] rfl (by (try simp only [List.map_toArray, List.map_cons, List.map_nil]); first | done | rfl | (simp only [tb_wrap8]; done) | (simp only [tb_wrap8]; rfl) | (simp only [List.length_drop, List.length_take]; rfl)) ?_; (with_reducible refine (culletlaw11_awake.calls k  false _ A5.out).mono ?_); rintro e w76 ⟨rfl, hb⟩; refine ⟨_, rfl, ?_⟩; have n0_ := Aside0.mk (below_step (by repeat (first | (with_reducible first | exact HB.out | apply below_alloc | apply pw_below_drewN | apply below_drew1) | exact HB.out)) hb); clear HB; have HB := n0_; clear n0_; (try clear hb); (try clear hb2); (try clear hk); (try clear hi)))
  go_ret
  exact ⟨by first | rfl | (simp [errW_none, errW_some] <;> rfl) | (simp [*, errW_none, errW_some] <;> rfl), by repeat (first | (with_reducible first | exact HB.out | apply below_alloc | apply pw_below_drewN | apply below_drew1) | exact HB.out)⟩

/-- THE ONE PURE STATEMENT of culletlaw11_GenerMore: yours. -/
def culletlaw11_GenerMore.Pure : Prop := ∀ (a0 : Int) (a1 : Int) (l2 : List Int) (a3 : Bool), (Lit.int .i64 a0).wf = true → (Lit.int .i64 a1).wf = true → l2.length ≤ maxLen → l2.length * 8 ≤ 140737488351232 → (∀ x ∈ l2, (Lit.int .i64 x).wf = true) → ∃ k, culletlaw11_GenerMore.f k a0 a1 l2 a3 = some true
theorem culletlaw11_GenerMore.walk (P : culletlaw11_GenerMore.Pure) (a0 : Int) (a1 : Int) (a2 : Option Addr) (len2 cap2 : Nat) (z2 : List Int) (a3 : Bool) (w : World) (w0 : (Lit.int .i64 a0).wf = true) (w1 : (Lit.int .i64 a1).wf = true) (w2 : (a2 = none ∧ len2 = 0 ∧ cap2 = 0 ∧ z2 = []) ∨ ∃ x, a2 = some x ∧ len2 ≤ cap2 ∧ cap2 ≤ maxLen ∧ z2.length = cap2 ∧ (∀ i, i < z2.length → w.cell? (x.add i) = some (.int .i64 (z2.getD i 0))) ∧ ∀ n ∈ z2, (Lit.int .i64 n).wf = true) (y2 : len2 * 8 ≤ 140737488351232) :
  Calls Try.prog 6 #[.int .i64 a0, .int .i64 a1, .slice a2 len2 cap2, .bool a3] w fun e w' => e = .returned (.bool true) ∧ Below w.heap.size w w' := by
 obtain ⟨l2, rfl, hr2, hm2, hw2, hc2⟩ := ReadsInt.ofRowC w2
 obtain ⟨k, h⟩ := P a0 a1 l2 a3 w0 w1 hm2 y2 hw2
 refine (culletlaw11_GenerMore.calls k a0 a1 _ _ l2 a3 true w (Kd.C_of_reads (d := (0 : Int)) (h1 := fun _ => rfl) hr2) hc2 h).mono ?_
 rintro e w' ⟨rfl, hd⟩
 exact ⟨rfl, hd⟩

end Go.Proofs.Ytkdoilmfchlpdaa.K
