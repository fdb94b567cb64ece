import Derived.Test.YtkdoilmfchlpdaaZ6
-- Printed for this claim by mp.py, a program of its prover, through the kit's print. Lean checks it.
namespace Go.Proofs.Ytkdoilmfchlpdaa.B
open Go.RowKit Go.Proofs.YtkdoilmfchlpdaaW.PrintWords Go.Proofs.YtkdoilmfchlpdaaW.PrintLast Go.Proofs.YtkdoilmfchlpdaaW.PrintMore Go.Proofs.Ytkdoilmfchlpdaa.A
attribute [local go_sem] max2_int min2_int max_two min_two max_three min_three max_four min_four   -- for this text's walks alone
set_option linter.unusedVariables false
set_option linter.unusedSimpArgs false

/-! ### culletlaw11_chosen: function 21 -/
mutual
def culletlaw11_chosen.l0 : Nat → Int → Int → List Int → List Bool → Int → Option (List Int)
 | 0, _, _, _, _, _ => none
 | k + 1, x0, x1, x2, x7, x8 => if x8 < x1 then (if x8 < (x2.length : Int) then (if 0 ≤ x8 then (culletlaw11_chosen.j1 k x0 x1 x2 x7 x8 (rd x2 x8)) else (none)) else (culletlaw11_chosen.j1 k x0 x1 x2 x7 x8 x8)) else (culletlaw11_chosen.l2 k x0 x7 ([] : List Int) 0)
def culletlaw11_chosen.j1 : Nat → Int → Int → List Int → List Bool → Int → Int → Option (List Int)
 | 0, _, _, _, _, _, _ => none
 | k + 1, x0, x1, x2, x7, x8, x9 => (culletlaw11_into.f x9 0 (wrap64 (x0 - 1))).bind fun t227 => (culletlaw11_chosen.l1 k x0 x1 x2 x7 x8 t227)
def culletlaw11_chosen.l1 : Nat → Int → Int → List Int → List Bool → Int → Int → Option (List Int)
 | 0, _, _, _, _, _, _ => none
 | k + 1, x0, x1, x2, x7, x8, x10 => if 0 ≤ x10 then (if x10 < (x7.length : Int) then (if rdOf false x7 x10 = true then (if x0 = 0 then (none) else (culletlaw11_chosen.l1 k x0 x1 x2 x7 x8 (Int.tmod (wrap64 (x10 + 1)) x0))) else (culletlaw11_chosen.l0 k x0 x1 x2 (x7.set (x10 : Int).toNat true) (wrap64 (x8 + 1)))) else (none)) else (none)
def culletlaw11_chosen.l2 : Nat → Int → List Bool → List Int → Int → Option (List Int)
 | 0, _, _, _, _ => none
 | k + 1, x0, x7, x11, x12 => if x12 < x0 then (if 0 ≤ x12 then (if x12 < (x7.length : Int) then (if rdOf false x7 x12 = true then (culletlaw11_chosen.l2 k x0 x7 x11 (wrap64 (x12 + 1))) else (if x11.length < 17592186044416 then (culletlaw11_chosen.l2 k x0 x7 (x11 ++ [x12]) (wrap64 (x12 + 1))) else (none))) else (none)) else (none)) else (some x11)
end
def culletlaw11_chosen.f (k : Nat) (a0 : Int) (a1 : Int) (l2 : List Int) : Option (List Int) := if 0 ≤ a0 then (if (a0 : Int).toNat ≤ 281474976710656 then (culletlaw11_chosen.l0 k a0 a1 l2 (List.replicate (a0 : Int).toNat false) 0) else (none)) else (none)
theorem culletlaw11_chosen.mono_l : ∀ k, (∀ y0 y1 y2 y3 y4, LeO (culletlaw11_chosen.l0 k y0 y1 y2 y3 y4) (culletlaw11_chosen.l0 (k + 1) y0 y1 y2 y3 y4)) ∧ (∀ y0 y1 y2 y3 y4 y5, LeO (culletlaw11_chosen.j1 k y0 y1 y2 y3 y4 y5) (culletlaw11_chosen.j1 (k + 1) y0 y1 y2 y3 y4 y5)) ∧ (∀ y0 y1 y2 y3 y4 y5, LeO (culletlaw11_chosen.l1 k y0 y1 y2 y3 y4 y5) (culletlaw11_chosen.l1 (k + 1) y0 y1 y2 y3 y4 y5)) ∧ (∀ y0 y1 y2 y3, LeO (culletlaw11_chosen.l2 k y0 y1 y2 y3) (culletlaw11_chosen.l2 (k + 1) y0 y1 y2 y3))
 | 0 => ⟨fun _ _ _ _ _ r h => by simp [culletlaw11_chosen.l0] at h, fun _ _ _ _ _ _ r h => by simp [culletlaw11_chosen.j1] at h, fun _ _ _ _ _ _ r h => by simp [culletlaw11_chosen.l1] at h, fun _ _ _ _ r h => by simp [culletlaw11_chosen.l2] at h⟩
 | k + 1 => by
  obtain ⟨ih0, ih1, ih2, ih3⟩ := culletlaw11_chosen.mono_l k
  refine ⟨?_, ?_, ?_, ?_⟩
  ·intro y0 y1 y2 y3 y4
   unfold culletlaw11_chosen.l0
   repeat' first
   | (with_reducible exact ih0 _ _ _ _ _)
   | (with_reducible exact ih1 _ _ _ _ _ _)
   | (with_reducible exact ih2 _ _ _ _ _ _)
   | (with_reducible exact ih3 _ _ _ _)
   | (with_reducible exact LeO.refl _)
   | (with_reducible exact LeO.none _)
   | (with_reducible refine LeO.ite ?_ ?_)
   | (with_reducible refine LeO.bind ?_ (fun _ => ?_))
   | exact ih0 _ _ _ _ _
   | exact ih1 _ _ _ _ _ _
   | exact ih2 _ _ _ _ _ _
   | exact ih3 _ _ _ _
   | exact LeO.none _
   | refine LeO.ite ?_ ?_
   | refine LeO.bind ?_ (fun _ => ?_)
  ·intro y0 y1 y2 y3 y4 y5
   unfold culletlaw11_chosen.j1
   repeat' first
   | (with_reducible exact ih0 _ _ _ _ _)
   | (with_reducible exact ih1 _ _ _ _ _ _)
   | (with_reducible exact ih2 _ _ _ _ _ _)
   | (with_reducible exact ih3 _ _ _ _)
   | (with_reducible exact LeO.refl _)
   | (with_reducible exact LeO.none _)
   | (with_reducible refine LeO.ite ?_ ?_)
   | (with_reducible refine LeO.bind ?_ (fun _ => ?_))
   | exact ih0 _ _ _ _ _
   | exact ih1 _ _ _ _ _ _
   | exact ih2 _ _ _ _ _ _
   | exact ih3 _ _ _ _
   | exact LeO.none _
   | refine LeO.ite ?_ ?_
   | refine LeO.bind ?_ (fun _ => ?_)
  ·intro y0 y1 y2 y3 y4 y5
   unfold culletlaw11_chosen.l1
   repeat' first
   | (with_reducible exact ih0 _ _ _ _ _)
   | (with_reducible exact ih1 _ _ _ _ _ _)
   | (with_reducible exact ih2 _ _ _ _ _ _)
   | (with_reducible exact ih3 _ _ _ _)
   | (with_reducible exact LeO.refl _)
   | (with_reducible exact LeO.none _)
   | (with_reducible refine LeO.ite ?_ ?_)
   | (with_reducible refine LeO.bind ?_ (fun _ => ?_))
   | exact ih0 _ _ _ _ _
   | exact ih1 _ _ _ _ _ _
   | exact ih2 _ _ _ _ _ _
   | exact ih3 _ _ _ _
   | exact LeO.none _
   | refine LeO.ite ?_ ?_
   | refine LeO.bind ?_ (fun _ => ?_)
  ·intro y0 y1 y2 y3
   unfold culletlaw11_chosen.l2
   repeat' first
   | (with_reducible exact ih0 _ _ _ _ _)
   | (with_reducible exact ih1 _ _ _ _ _ _)
   | (with_reducible exact ih2 _ _ _ _ _ _)
   | (with_reducible exact ih3 _ _ _ _)
   | (with_reducible exact LeO.refl _)
   | (with_reducible exact LeO.none _)
   | (with_reducible refine LeO.ite ?_ ?_)
   | (with_reducible refine LeO.bind ?_ (fun _ => ?_))
   | exact ih0 _ _ _ _ _
   | exact ih1 _ _ _ _ _ _
   | exact ih2 _ _ _ _ _ _
   | exact ih3 _ _ _ _
   | exact LeO.none _
   | refine LeO.ite ?_ ?_
   | refine LeO.bind ?_ (fun _ => ?_)
theorem culletlaw11_chosen.mono : ∀ a0 a1 a2 k, LeO (culletlaw11_chosen.f k a0 a1 a2) (culletlaw11_chosen.f (k + 1) a0 a1 a2) := by
 intro a0 a1 a2 k
 obtain ⟨ih0, ih1, ih2, ih3⟩ := culletlaw11_chosen.mono_l k
 unfold culletlaw11_chosen.f
 repeat' first
   | (with_reducible exact ih0 _ _ _ _ _)
   | (with_reducible exact ih1 _ _ _ _ _ _)
   | (with_reducible exact ih2 _ _ _ _ _ _)
   | (with_reducible exact ih3 _ _ _ _)
   | (with_reducible exact LeO.refl _)
   | (with_reducible exact LeO.none _)
   | (with_reducible refine LeO.ite ?_ ?_)
   | (with_reducible refine LeO.bind ?_ (fun _ => ?_))
   | exact ih0 _ _ _ _ _
   | exact ih1 _ _ _ _ _ _
   | exact ih2 _ _ _ _ _ _
   | exact ih3 _ _ _ _
   | exact LeO.none _
   | refine LeO.ite ?_ ?_
   | refine LeO.bind ?_ (fun _ => ?_)
set_option maxHeartbeats 8000000 in
set_option maxRecDepth 100000 in
theorem culletlaw11_chosen.calls (k : Nat) (a0 : Int) (a1 : Int) (A2 : Option Addr) (c2 : Nat) (l2 : List Int) (r : List Int) (w : World) (hr2 : Kd.C (Kd.int .i64) w A2 l2.length l2) (hc2 : l2.length ≤ c2) (h : culletlaw11_chosen.f k a0 a1 l2 = some r) :
  Calls Try.prog 21 #[.int .i64 a0, .int .i64 a1, .slice A2 l2.length c2] w fun e w' => ∃ v0_ : Value, e = .returned (v0_) ∧ Kd.R (Kd.int .i64) 3 w' w.heap.size (fun _ => True) v0_ r ∧ Below w.heap.size w w' := by
 have HR2 := Aside0.mk hr2
 have HC2 := Aside0.mk hc2
 clear hr2 hc2
 have HB := Aside0.mk (Below.refl w.heap.size w)
 have H : (if 0 ≤ a0 then (if (a0 : Int).toNat ≤ 281474976710656 then (culletlaw11_chosen.l0 k a0 a1 l2 (List.replicate (a0 : Int).toNat false) 0) else (none)) else (none)) = some r := h
 clear h
 by_cases c4 : 0 ≤ a0
 ·rw [if_pos c4] at H
  have c4b0 := eq_true c4
  have c4b1 : decide (0 ≤ a0) = true := decide_eq_true c4
  clear c4
  by_cases c5 : (a0 : Int).toNat ≤ 281474976710656
  ·rw [if_pos c5] at H
   have c5b0 := eq_true c5
   have c5b1 : decide ((a0 : Int).toNat ≤ 281474976710656) = true := decide_eq_true c5
   clear c5
   obtain ⟨y223, hy223⟩ : ∃ y_ : List Bool, y_ = (List.replicate (a0 : Int).toNat false) := ⟨_, rfl⟩
   replace H : (culletlaw11_chosen.l0 k a0 a1 l2 y223 0) = some r := by first | (rw [hy223]; with_reducible exact H) | (have H2_ := (Option.bind_some _ _).symm.trans H; rw [hy223]; with_reducible exact H2_) | (have H2_ := (Option.bind_some _ _).symm.trans H; with_reducible exact H2_) | with_reducible exact H | (rw [hy223]; exact H) | exact H
   have Ny223 := Aside0.mk hy223
   clear hy223
   have H' := Aside0.mk H
   clear H
   go_enter Try.func21, Try.ntmps21
   go_wp2_with (first | ((with_reducible refine gate_dst (N := 14) rfl ?_); refine Kd.R_make Kd.bool _ 4 rfl (N := 14) rfl 75 _ _ rfl a0 rfl rfl Try.underlying75 (.bool false) 1 info4 rfl (by decide) (by omega) false (ok := fun _ => True) (okp := fun _ => True) rfl (fun _ hk => hk) trivial (of_decide_eq_true (by first | (with_reducible assumption) | assumption)) (Nat.le_trans (Nat.mul_le_mul_right _ (of_decide_eq_true (by first | (with_reducible assumption) | assumption) : a0.toNat ≤ 281474976710656)) (by omega)) (Below.refl _ _) (Nat.le_refl _) ?_; intro v224 w6 ho7 hb hg_ hnew_; clear hg_ hnew_; (first | rw [← Ny223.out] at ho7 | (simp only [Int.reduceToNat] at ho7; rw [← Ny223.out] at ho7)); have n0_ := Aside0.mk (Kd.R_lower ho7 (below_size (by repeat (first | (with_reducible first | exact HB.out | apply below_alloc | apply pw_below_drewN | apply below_drew1) | exact HB.out)))); have n1_ := Aside0.mk (below_step (by repeat (first | (with_reducible first | exact HB.out | apply below_alloc | apply pw_below_drewN | apply below_drew1) | exact HB.out)) hb); clear HB; have HO225 := n0_; have HB := n1_; clear n0_ n1_; clear hb ho7))
   go_loopg [8] k (fun kq v8 w' => ∃ (x7_1 : List Bool) (x8_1 : Int), v8 = .int .i64 x8_1 ∧ Aside0 (culletlaw11_chosen.l0 kq a0 a1 l2 x7_1 x8_1 = some r) ∧ Aside0 (kq ≤ k) ∧ Aside0 (Kd.R Kd.bool 4 w' w.heap.size (fun _ => True) v224 x7_1) ∧ Aside0 (Below w.heap.size w w'))
   case atStart => exact ⟨(y223), (0), (by first | rfl | (simp; done) | (simp [*]; done)), H', ⟨Nat.le_refl _⟩, ⟨by (with_reducible repeat (first | apply Kd.R_alloc | apply Kd.R_drewN | apply Kd.R_drew)); exact HO225.out⟩, ⟨by repeat (first | (with_reducible first | exact HB.out | apply below_alloc | apply pw_below_drewN | apply below_drew1) | exact HB.out)⟩⟩
   case round =>
    clear H'
    try clear c2
    try clear p2
    try clear c4
    try clear c4b0
    try clear c4b1
    try clear c5
    try clear c5b0
    try clear c5b1
    obtain ⟨x7_1, x8_1, rfl, HA, HK1, HO_7, HB⟩ := hrel
    cases gk with
    | zero => exact absurd HA.out (by simp [culletlaw11_chosen.l0])
    | succ k1 =>
     have H := HA.out
     clear HA
     simp only [culletlaw11_chosen.l0] at H
     by_cases c8 : x8_1 < a1
     ·rw [if_pos c8] at H
      have c8b0 : decide (x8_1 < a1) = true := decide_eq_true c8
      clear c8
      have HC9 := Aside0.mk H
      clear H
      go_upto_if 24 with (fail)
      go_cut [9] (fun v9 wc => ∃ (kq : Nat) (x9_8 : Int), v9 = .int .i64 x9_8 ∧ Aside0 (culletlaw11_chosen.j1 kq a0 a1 l2 x7_1 x8_1 x9_8 = some r) ∧ Aside0 (kq ≤ k1) ∧ Aside0 (Kd.R Kd.bool 4 wc w.heap.size (fun _ => True) v224 x7_1) ∧ Aside0 (Below w.heap.size w wc))
      case first =>
       have H := HC9.out
       clear HC9
       by_cases c10 : x8_1 < (l2.length : Int)
       ·rw [if_pos c10] at H
        have c10b0 : decide (x8_1 < (l2.length : Int)) = true := decide_eq_true c10
        clear c10
        (first | rw [c10b0] | (simp only [i64_w, i32_w]; rw [c10b0]) | skip)
        by_cases c11 : 0 ≤ x8_1
        ·rw [if_pos c11] at H
         have c11b0 : decide (0 ≤ x8_1) = true := decide_eq_true c11
         clear c11
         have H' := Aside0.mk H
         clear H
         have p226 : 0 ≤ (x8_1 : Int) := of_decide_eq_true (by first | (with_reducible assumption) | assumption)
         have q226 : x8_1 < (l2.length : Int) := of_decide_eq_true (by first | (with_reducible assumption) | assumption)
         obtain ⟨ad226, e226, hx226_0⟩ := Kd.at_int HR2.out x8_1 p226 q226
         cases e226
         replace hx226_0 := (HB.out.cell (World.block_lt_of_cell? w _ hx226_0)).trans hx226_0
         replace p226 := eq_true p226
         replace q226 := eq_true q226
         go_wp2
         go_meet
         case rel => exact ⟨_, (rd l2 x8_1), (by first | rfl | (simp; done) | (simp [*]; done)), H', ⟨by have := HK1.out; first | omega | exact Nat.le_refl _⟩, ⟨by (with_reducible repeat (first | apply Kd.R_alloc | apply Kd.R_drewN | apply Kd.R_drew)); exact HO_7.out⟩, ⟨by repeat (first | (with_reducible first | exact HB.out | apply below_alloc | apply pw_below_drewN | apply below_drew1) | exact HB.out)⟩⟩
        ·rw [if_neg c11] at H
         exact absurd H (by simp)
       ·rw [if_neg c10] at H
        have c10b0 : decide (x8_1 < (l2.length : Int)) = false := decide_eq_false c10
        clear c10
        (first | rw [c10b0] | (simp only [i64_w, i32_w]; rw [c10b0]) | skip)
        have H' := Aside0.mk H
        clear H
        go_wp2
        go_meet
        case rel => exact ⟨_, (x8_1), (by first | rfl | (simp; done) | (simp [*]; done)), H', ⟨by have := HK1.out; first | omega | exact Nat.le_refl _⟩, ⟨by (with_reducible repeat (first | apply Kd.R_alloc | apply Kd.R_drewN | apply Kd.R_drew)); exact HO_7.out⟩, ⟨by repeat (first | (with_reducible first | exact HB.out | apply below_alloc | apply pw_below_drewN | apply below_drew1) | exact HB.out)⟩⟩
      case rest =>
       clear HC9
       try clear c1
       try clear c2
       try clear p2
       try clear q2
       try clear hx2
       try clear c4
       try clear c4b0
       try clear c4b1
       try clear c5
       try clear c5b0
       try clear c5b1
       try clear c8
       try clear c8b0
       try clear c10
       try clear c10b0
       try clear c11
       try clear c11b0
       try clear hx226_0
       try clear p2
       try clear p226
       try clear q226
       obtain ⟨kq, x9_8, rfl, HA, HJ8, HO_7, HB⟩ := hcut
       cases kq with
       | zero => exact absurd HA.out (by simp [culletlaw11_chosen.j1])
       | succ kj8 =>
        have H := HA.out
        clear HA
        simp only [culletlaw11_chosen.j1] at H
        replace H := Option.bind_eq_some_iff.mp H
        obtain ⟨t227, A120, H⟩ := H
        replace H : (culletlaw11_chosen.l1 kj8 a0 a1 l2 x7_1 x8_1 t227) = some r := H
        have A12 := Aside0.mk A120
        clear A120
        have H' := Aside0.mk H
        clear H
        go_wp2_with (first | ((with_reducible refine gate_callee (f := 16) rfl ?_); refine goesL_ (some 32) rfl rfl Try.func16 (by kernel_rfl) rfl #[.int .i64 x9_8, .int .i64 0, .int .i64 (wrap64 (a0 - 1))] rfl (by (try simp only [List.map_toArray, List.map_cons, List.map_nil]); first | done | rfl | (simp only [tb_wrap8]; done) | (simp only [tb_wrap8]; rfl) | (simp only [List.length_drop, List.length_take]; rfl)) ?_; (with_reducible refine (culletlaw11_into.calls x9_8 0 (wrap64 (a0 - 1)) t227 _ A12.out).mono ?_); rintro e w' ⟨rfl, ⟨nd, rfl⟩⟩; refine ⟨_, rfl, ?_⟩))
        go_loopg [10] kj8 (fun kq v10 w' => ∃ (x10_3 : Int), v10 = .int .i64 x10_3 ∧ Aside0 (culletlaw11_chosen.l1 kq a0 a1 l2 x7_1 x8_1 x10_3 = some r) ∧ Aside0 (kq ≤ kj8) ∧ Aside0 (Kd.R Kd.bool 4 w' w.heap.size (fun _ => True) v224 x7_1) ∧ Aside0 (Below w.heap.size w w'))
        case atStart => exact ⟨(t227), (by first | rfl | (simp; done) | (simp [*]; done)), H', ⟨Nat.le_refl _⟩, ⟨by (with_reducible repeat (first | apply Kd.R_alloc | apply Kd.R_drewN | apply Kd.R_drew)); exact HO_7.out⟩, ⟨by repeat (first | (with_reducible first | exact HB.out | apply below_alloc | apply pw_below_drewN | apply below_drew1) | exact HB.out)⟩⟩
        case round =>
         clear H'
         try clear c1
         try clear c2
         try clear p2
         try clear q2
         try clear hx2
         try clear c4
         try clear c4b0
         try clear c4b1
         try clear c5
         try clear c5b0
         try clear c5b1
         try clear p6
         try clear c8
         try clear c8b0
         try clear p8
         try clear c10
         try clear c10b0
         try clear c11
         try clear c11b0
         try clear hx226_0
         try clear p2
         try clear p226
         try clear q2
         try clear q226
         obtain ⟨x10_3, rfl, HA, HK3, HO_7, HB⟩ := hrel
         cases gk with
         | zero => exact absurd HA.out (by simp [culletlaw11_chosen.l1])
         | succ k3 =>
          have H := HA.out
          clear HA
          simp only [culletlaw11_chosen.l1] at H
          by_cases c13 : 0 ≤ x10_3
          ·rw [if_pos c13] at H
           have c13b0 : decide (0 ≤ x10_3) = true := decide_eq_true c13
           clear c13
           by_cases c14 : x10_3 < (x7_1.length : Int)
           ·rw [if_pos c14] at H
            have c14b0 : decide (x10_3 < (x7_1.length : Int)) = true := decide_eq_true c14
            clear c14
            obtain ⟨bq15, hbq15⟩ : ∃ b_ : Bool, b_ = (rdOf false x7_1 x10_3) := ⟨_, rfl⟩
            replace H : (if bq15 = true then (if a0 = 0 then (none) else (culletlaw11_chosen.l1 k3 a0 a1 l2 x7_1 x8_1 (Int.tmod (wrap64 (x10_3 + 1)) a0))) else (culletlaw11_chosen.l0 k3 a0 a1 l2 (x7_1.set (x10_3 : Int).toNat true) (wrap64 (x8_1 + 1)))) = some r := by rw [← hbq15] at H; exact H
            have Nbq15 := Aside0.mk hbq15
            clear hbq15
            by_cases c16 : bq15 = true
            ·subst c16
             have H1 : (if a0 = 0 then (none) else (culletlaw11_chosen.l1 k3 a0 a1 l2 x7_1 x8_1 (Int.tmod (wrap64 (x10_3 + 1)) a0))) = some r := by rw [if_pos rfl] at H; exact H
             clear H
             have H := H1
             clear H1
             by_cases c17 : a0 = 0
             ·rw [if_pos c17] at H
              exact absurd H (by simp)
             ·rw [if_neg c17] at H
              have c17b0 : (a0 == 0) = false := beq_eq_false_iff_ne.mpr c17
              have c17b1 : (a0 != 0) = true := bne_iff_ne.mpr c17
              have H' := Aside0.mk H
              clear H
              obtain ⟨Ao18, co18, eo18⟩ := Kd.R_slice HO_7.out
              subst eo18
              have p228 : 0 ≤ (x10_3 : Int) := of_decide_eq_true (by first | (with_reducible assumption) | assumption)
              have q228 : x10_3 < (x7_1.length : Int) := of_decide_eq_true (by first | (with_reducible assumption) | assumption)
              obtain ⟨ad228, e228, hx228_0⟩ := Kd.at_bool (Kd.R_reads' HO_7.out).2.2 x10_3 p228 q228
              (try rw [← Nbq15.out] at hx228_0)
              cases e228
              replace p228 := eq_true p228
              replace q228 := eq_true q228
              go_wp2
              go_roundg k3
              case measure => have := HK1.out; have := HJ8.out; have := HK3.out; omega
              case rel => exact ⟨(Int.tmod (wrap64 (x10_3 + 1)) a0), (by first | rfl | (simp; done) | (simp [*]; done)), H', ⟨by have := HK1.out; have := HJ8.out; have := HK3.out; omega⟩, ⟨by (with_reducible repeat (first | apply Kd.R_alloc | apply Kd.R_drewN | apply Kd.R_drew)); exact HO_7.out⟩, ⟨by repeat (first | (with_reducible first | exact HB.out | apply below_alloc | apply pw_below_drewN | apply below_drew1) | exact HB.out)⟩⟩
            ·replace c16 := Bool.eq_false_iff.mpr c16
             subst c16
             have H1 : (culletlaw11_chosen.l0 k3 a0 a1 l2 (x7_1.set (x10_3 : Int).toNat true) (wrap64 (x8_1 + 1))) = some r := by rw [if_neg (show ¬ (false = true) by decide)] at H; exact H
             clear H
             have H := H1
             clear H1
             obtain ⟨y229, hy229⟩ : ∃ y_ : List Bool, y_ = (x7_1.set (x10_3 : Int).toNat true) := ⟨_, rfl⟩
             replace H : (culletlaw11_chosen.l0 k3 a0 a1 l2 y229 (wrap64 (x8_1 + 1))) = some r := by first | (rw [hy229]; with_reducible exact H) | (have H2_ := (Option.bind_some _ _).symm.trans H; rw [hy229]; with_reducible exact H2_) | (have H2_ := (Option.bind_some _ _).symm.trans H; with_reducible exact H2_) | with_reducible exact H | (rw [hy229]; exact H) | exact H
             have Ny229 := Aside0.mk hy229
             clear hy229
             have H' := Aside0.mk H
             clear H
             obtain ⟨Ao20, co20, eo20⟩ := Kd.R_slice HO_7.out
             subst eo20
             have p228 : 0 ≤ (x10_3 : Int) := of_decide_eq_true (by first | (with_reducible assumption) | assumption)
             have q228 : x10_3 < (x7_1.length : Int) := of_decide_eq_true (by first | (with_reducible assumption) | assumption)
             obtain ⟨ad228, e228, hx228_0⟩ := Kd.at_bool (Kd.R_reads' HO_7.out).2.2 x10_3 p228 q228
             (try rw [← Nbq15.out] at hx228_0)
             cases e228
             replace p228 := eq_true p228
             replace q228 := eq_true q228
             have p19 : 0 ≤ (x10_3 : Int) := of_decide_eq_true (by first | (with_reducible assumption) | assumption)
             have q19 : (x10_3 : Int) < ((x7_1.length : Int) : Int) := of_decide_eq_true (by first | (with_reducible assumption) | assumption)
             obtain ⟨go19, co19, eo19, gb19, gl19, cl19, HG19⟩ := Kd.R_form HO_7.out (by omega)
             (first | cases eo19 | (injection eo19 with ea_ en_ ec_; (first | subst ea_ | (injection ea_ with ea_; subst ea_)); subst ec_; clear en_))
             have GB19 := Aside0.mk gb19
             have GG19 := Aside0.mk HG19
             clear gb19 gl19 HG19
             (first | simp only [add_plain] at hx228_0 | skip)
             obtain ⟨hx19_0, hf19_0⟩ := Kd.R_celln false HO_7.out (x10_3 : Int) p19 q19
             replace p19 := eq_true p19
             replace q19 := eq_true q19
             have HP21 := Kd.R_putg HO_7.out (x10_3 : Int) true
             go_wp2_with (first | ((with_reducible refine gate_store (t := 4) (p := 43) rfl ?_); refine store_event (t := 4) (p := 43) (v := ?vo_w22) (w1 := (wr.setCell ⟨go19, (x10_3 : Int).toNat, none⟩ (.bool true))) ?hg ?ho ?hn ?hr ?_; (case ho => rfl); (case hg => rfl); (case hn => rfl); (case hr => first | (go_simp; done) | (go_simp; rfl)); intro w22 hw; have hg : wr.grownBy w22 (some go19) := (by rw [hw]; exact HP21.2); have hp_ : Kd.R Kd.bool 4 w22 w.heap.size (fun _ => True) (.slice (some ⟨go19, 0, none⟩) x7_1.length co20) y229 := (by rw [hw, Ny229.out]; exact HP21.1); clear HP21; have n0_ := Aside0.mk (hp_); have n1_ := Aside0.mk ((by rw [hw]; exact below_set (HB.out) GB19.out : Below w.heap.size w w22)); clear HO_7; clear HB; have HO_7 := n0_; have HB := n1_; clear n0_ n1_; clear hg hw hp_))
             go_roundg k3
             case measure => have := HK1.out; have := HJ8.out; have := HK3.out; omega
             case rel => exact ⟨(y229), (wrap64 (x8_1 + 1)), (by first | rfl | (simp; done) | (simp [*]; done)), H', ⟨by have := HK1.out; have := HJ8.out; have := HK3.out; omega⟩, ⟨by (with_reducible repeat (first | apply Kd.R_alloc | apply Kd.R_drewN | apply Kd.R_drew)); exact HO_7.out⟩, ⟨by repeat (first | (with_reducible first | exact HB.out | apply below_alloc | apply pw_below_drewN | apply below_drew1) | exact HB.out)⟩⟩
           ·rw [if_neg c14] at H
            exact absurd H (by simp)
          ·rw [if_neg c13] at H
           exact absurd H (by simp)
     ·rw [if_neg c8] at H
      have c8b0 : decide (x8_1 < a1) = false := decide_eq_false c8
      clear c8
      have H' := Aside0.mk H
      clear H
      go_wp2
      go_loopg [11, 12] k1 (fun kq v11 v12 w' => ∃ (x11_2 : List Int) (x12_2 : Int), v12 = .int .i64 x12_2 ∧ Aside0 (culletlaw11_chosen.l2 kq a0 x7_1 x11_2 x12_2 = some r) ∧ Aside0 (kq ≤ k1) ∧ Aside0 (Kd.R Kd.bool 4 w' w.heap.size (fun _ => True) v224 x7_1) ∧ Aside0 (Kd.R (Kd.int .i64) 3 w' w.heap.size (fun _ => True) v11 x11_2) ∧ Aside0 (Below w.heap.size w w'))
      case atStart => exact ⟨(([] : List Int)), (0), (by first | rfl | (simp; done) | (simp [*]; done)), H', ⟨Nat.le_refl _⟩, ⟨by (with_reducible repeat (first | apply Kd.R_alloc | apply Kd.R_drewN | apply Kd.R_drew)); exact HO_7.out⟩, ⟨by first | exact Kd.R_nil _ _ _ _ _ | exact Kd.N_nil _ _ _ _ _ | exact Kd.V_nil _ _ _ _ _ | exact Kd.Q_nil _ _ _ _ _ | exact Kd.S_nil _ _ _ _ _⟩, ⟨by repeat (first | (with_reducible first | exact HB.out | apply below_alloc | apply pw_below_drewN | apply below_drew1) | exact HB.out)⟩⟩
      case round =>
       clear H'
       try clear c1
       try clear p1
       try clear q1
       try clear hx1
       try clear c2
       try clear p2
       try clear q2
       try clear hx2
       try clear c4
       try clear c4b0
       try clear c4b1
       try clear c5
       try clear c5b0
       try clear c5b1
       try clear p6
       try clear c8
       try clear c8b0
       try clear p8
       try clear c10
       try clear c10b0
       try clear c11
       try clear c11b0
       try clear c13
       try clear c13b0
       try clear c14
       try clear c14b0
       try clear q15
       try clear c16
       try clear c17
       try clear c17b0
       try clear c17b1
       try clear p19
       try clear q19
       try clear hx19
       try clear hf19
       try clear c21
       try clear p22
       try clear q22
       try clear hx22
       try clear hx19_0
       try clear hx226_0
       try clear hx228_0
       try clear p19
       try clear p2
       try clear p226
       try clear p228
       try clear p6
       try clear p8
       try clear q19
       try clear q2
       try clear q226
       try clear q228
       obtain ⟨x11_2, x12_2, rfl, HA, HK2, HO_7, HO_11, HB⟩ := hrel
       cases gk with
       | zero => exact absurd HA.out (by simp [culletlaw11_chosen.l2])
       | succ k2 =>
        have H := HA.out
        clear HA
        simp only [culletlaw11_chosen.l2] at H
        by_cases c23 : x12_2 < a0
        ·rw [if_pos c23] at H
         have c23b0 : decide (x12_2 < a0) = true := decide_eq_true c23
         clear c23
         by_cases c24 : 0 ≤ x12_2
         ·rw [if_pos c24] at H
          have c24b0 : decide (0 ≤ x12_2) = true := decide_eq_true c24
          clear c24
          by_cases c25 : x12_2 < (x7_1.length : Int)
          ·rw [if_pos c25] at H
           have c25b0 : decide (x12_2 < (x7_1.length : Int)) = true := decide_eq_true c25
           clear c25
           obtain ⟨bq26, hbq26⟩ : ∃ b_ : Bool, b_ = (rdOf false x7_1 x12_2) := ⟨_, rfl⟩
           replace H : (if bq26 = true then (culletlaw11_chosen.l2 k2 a0 x7_1 x11_2 (wrap64 (x12_2 + 1))) else (if x11_2.length < 17592186044416 then (culletlaw11_chosen.l2 k2 a0 x7_1 (x11_2 ++ [x12_2]) (wrap64 (x12_2 + 1))) else (none))) = some r := by rw [← hbq26] at H; exact H
           have Nbq26 := Aside0.mk hbq26
           clear hbq26
           by_cases c27 : bq26 = true
           ·subst c27
            have H1 : (culletlaw11_chosen.l2 k2 a0 x7_1 x11_2 (wrap64 (x12_2 + 1))) = some r := by rw [if_pos rfl] at H; exact H
            clear H
            have H := H1
            clear H1
            have H' := Aside0.mk H
            clear H
            obtain ⟨Ao28, co28, eo28⟩ := Kd.R_slice HO_7.out
            subst eo28
            have p230 : 0 ≤ (x12_2 : Int) := of_decide_eq_true (by first | (with_reducible assumption) | assumption)
            have q230 : x12_2 < (x7_1.length : Int) := of_decide_eq_true (by first | (with_reducible assumption) | assumption)
            obtain ⟨ad230, e230, hx230_0⟩ := Kd.at_bool (Kd.R_reads' HO_7.out).2.2 x12_2 p230 q230
            (try rw [← Nbq26.out] at hx230_0)
            cases e230
            replace p230 := eq_true p230
            replace q230 := eq_true q230
            go_wp2
            go_roundg k2
            case measure => have := HK1.out; have := HK2.out; omega
            case rel => exact ⟨(x11_2), (wrap64 (x12_2 + 1)), (by first | rfl | (simp; done) | (simp [*]; done)), H', ⟨by have := HK1.out; have := HK2.out; omega⟩, ⟨by (with_reducible repeat (first | apply Kd.R_alloc | apply Kd.R_drewN | apply Kd.R_drew)); exact HO_7.out⟩, ⟨by (with_reducible repeat (first | apply Kd.R_alloc | apply Kd.R_drewN | apply Kd.R_drew)); exact HO_11.out⟩, ⟨by repeat (first | (with_reducible first | exact HB.out | apply below_alloc | apply pw_below_drewN | apply below_drew1) | exact HB.out)⟩⟩
           ·replace c27 := Bool.eq_false_iff.mpr c27
            subst c27
            have H1 : (if x11_2.length < 17592186044416 then (culletlaw11_chosen.l2 k2 a0 x7_1 (x11_2 ++ [x12_2]) (wrap64 (x12_2 + 1))) else (none)) = some r := by rw [if_neg (show ¬ (false = true) by decide)] at H; exact H
            clear H
            have H := H1
            clear H1
            by_cases c29 : x11_2.length < 17592186044416
            ·rw [if_pos c29] at H
             have LMc29 := Aside0.mk c29
             clear c29
             obtain ⟨y231, hy231⟩ : ∃ y_ : List Int, y_ = (x11_2 ++ [x12_2]) := ⟨_, rfl⟩
             replace H : (culletlaw11_chosen.l2 k2 a0 x7_1 y231 (wrap64 (x12_2 + 1))) = some r := by first | (rw [hy231]; with_reducible exact H) | (have H2_ := (Option.bind_some _ _).symm.trans H; rw [hy231]; with_reducible exact H2_) | (have H2_ := (Option.bind_some _ _).symm.trans H; with_reducible exact H2_) | with_reducible exact H | (rw [hy231]; exact H) | exact H
             have Ny231 := Aside0.mk hy231
             clear hy231
             have H' := Aside0.mk H
             clear H
             obtain ⟨Ao30, co30, eo30⟩ := Kd.R_slice HO_7.out
             subst eo30
             have p230 : 0 ≤ (x12_2 : Int) := of_decide_eq_true (by first | (with_reducible assumption) | assumption)
             have q230 : x12_2 < (x7_1.length : Int) := of_decide_eq_true (by first | (with_reducible assumption) | assumption)
             obtain ⟨ad230, e230, hx230_0⟩ := Kd.at_bool (Kd.R_reads' HO_7.out).2.2 x12_2 p230 q230
             (try rw [← Nbq26.out] at hx230_0)
             cases e230
             replace p230 := eq_true p230
             replace q230 := eq_true q230
             go_wp2_with (first | ((with_reducible refine gate_builtin (b := .append) (xs := #[.tmp 54, .tmp 56]) rfl ?_); at_builtin; refine Kd.R_append (Kd.int .i64) (w0 := w) w.heap.size rfl (.tmp 54) (.tmp 56) 34 3 (.int .i64 0) 8 rfl Try.underlying34 info3 rfl (by decide) (by omega) u11 x11_2 x12_2 [.int .i64 x12_2] (fun _ => True) (fun _ => False) rfl rfl ?aP (fun _ hk => hk.elim) ?aF ?aO ?aB ?aS ?aL ?_; (case aP => exact rfl); (case aB => exact (by repeat (first | (with_reducible first | exact HB.out | apply below_alloc | apply pw_below_drewN | apply below_drew1) | exact HB.out))); (case aF => exact (fun _ _ => trivial)); (case aO => exact (by (with_reducible repeat (first | apply Kd.R_alloc | apply Kd.R_drewN | apply Kd.R_drew)); exact HO_11.out)); (case aS => exact (below_size (by repeat (first | (with_reducible first | exact HB.out | apply below_alloc | apply pw_below_drewN | apply below_drew1) | exact HB.out)))); (case aL => have := LMc29.out; omega); intro v232 w31 ho hb hg hat; rw [← Ny231.out] at ho; have n0_ := Aside0.mk (Kd.R_over' (by (with_reducible repeat (first | apply Kd.R_alloc | apply Kd.R_drewN | apply Kd.R_drew)); exact HO_7.out) (Kd.R_typed (by (with_reducible repeat (first | apply Kd.R_alloc | apply Kd.R_drewN | apply Kd.R_drew)); exact HO_11.out)) (by decide) hg); have n1_ := Aside0.mk (hb); have n2_ := Aside0.mk (ho); clear HO_7; clear HB; clear HO_11; have HO_7 := n0_; have HB := n1_; have HO233 := n2_; clear n0_ n1_ n2_; clear ho hb hg hat))
             go_roundg k2
             case measure => have := HK1.out; have := HK2.out; omega
             case rel => exact ⟨(y231), (wrap64 (x12_2 + 1)), (by first | rfl | (simp; done) | (simp [*]; done)), H', ⟨by have := HK1.out; have := HK2.out; omega⟩, ⟨by (with_reducible repeat (first | apply Kd.R_alloc | apply Kd.R_drewN | apply Kd.R_drew)); exact HO_7.out⟩, ⟨by (with_reducible repeat (first | apply Kd.R_alloc | apply Kd.R_drewN | apply Kd.R_drew)); exact HO233.out⟩, ⟨by repeat (first | (with_reducible first | exact HB.out | apply below_alloc | apply pw_below_drewN | apply below_drew1) | exact HB.out)⟩⟩
            ·rw [if_neg c29] at H
             exact absurd H (by simp)
          ·rw [if_neg c25] at H
           exact absurd H (by simp)
         ·rw [if_neg c24] at H
          exact absurd H (by simp)
        ·rw [if_neg c23] at H
         have c23b0 : decide (x12_2 < a0) = false := decide_eq_false c23
         clear c23
         obtain rfl := Option.some.inj H
         go_wp2
         go_ret
         exact ⟨_, by first | rfl | (simp [errW_none, errW_some] <;> rfl) | (simp [*, errW_none, errW_some] <;> rfl), by (with_reducible repeat (first | apply Kd.R_alloc | apply Kd.R_drewN | apply Kd.R_drew)); exact HO_11.out, by repeat (first | (with_reducible first | exact HB.out | apply below_alloc | apply pw_below_drewN | apply below_drew1) | exact HB.out)⟩
  ·rw [if_neg c5] at H
   exact absurd H (by simp)
 ·rw [if_neg c4] at H
  exact absurd H (by simp)

end Go.Proofs.Ytkdoilmfchlpdaa.B
