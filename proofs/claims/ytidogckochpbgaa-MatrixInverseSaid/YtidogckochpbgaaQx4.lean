-- Printed for this claim by mp.py, a program of its prover, through the kit's print. Lean checks it.
import Derived.Test.YtidogckochpbgaaQx0
import Derived.Test.YtidogckochpbgaaQx1
import Derived.Test.YtidogckochpbgaaQx2
import Derived.Test.YtidogckochpbgaaQx3
namespace Go.Proofs.Ytidogckochpbgaa.Q
open Go.RowKit Go.Proofs.YtidogckochpbgaaW.PrintWords Go.Proofs.YtidogckochpbgaaW.PrintLast Go.Proofs.YtidogckochpbgaaW.PrintMore Go.Proofs.Ytidogckochpbgaa.A
attribute [local go_sem] max2_int min2_int max_two min_two max_three min_three max_four min_four   -- for this text's walks alone
set_option linter.unusedVariables false
set_option linter.unusedSimpArgs false

/-! ### culletlaw10_MatrixInverse: function 8 -/
mutual
def culletlaw10_MatrixInverse.j0 : Nat → List (List Int) → List (List Int) → Bool → Option (Bool)
  | 0, _, _, _ => none
  | k + 1, x0, x1, x30 => if x30 = true then (some false) else ((culletlaw10_side.f k x0).bind fun t160 => (if t160 = 0 then (culletlaw10_MatrixInverse.j1 k x0 x1 t160 true) else (if 0 < (x0.length : Int) then (if ((rd_L1 x0 0).length : Int) = t160 then (culletlaw10_MatrixInverse.j1 k x0 x1 t160 (decide (t160 > 64))) else (culletlaw10_MatrixInverse.j1 k x0 x1 t160 true)) else (none))))
def culletlaw10_MatrixInverse.j1 : Nat → List (List Int) → List (List Int) → Int → Bool → Option (Bool)
  | 0, _, _, _, _ => none
  | k + 1, x0, x1, x7, x46 => if x46 = true then (some true) else ((culletlaw10_twin.f x0).bind fun t162 => ((matrix_Det.f t162).bind fun bt165 => (if bt165.2 = 0 then ((culletlaw10_twin.f x0).bind fun t167 => ((matrix_Rank.f t167).bind fun bt170 => (if bt170.2 = 0 then (culletlaw10_MatrixInverse.j2 k x0 x1 x7 bt165.1 ((bt170.1 == x7) != (bt165.1 != 0))) else (culletlaw10_MatrixInverse.j2 k x0 x1 x7 bt165.1 true)))) else (some false))))
def culletlaw10_MatrixInverse.j2 : Nat → List (List Int) → List (List Int) → Int → Int → Bool → Option (Bool)
  | 0, _, _, _, _, _ => none
  | k + 1, x0, x1, x7, x8, x70 => if x70 = true then (some false) else ((culletlaw10_twin.f x0).bind fun t172 => ((matrix_Invert.f k t172).bind fun bt175 => (if x8 = 0 then (if bt175.2 = 102 then (some ((bt175.1.length : Int) == 0)) else (some false)) else ((culletlaw10_twin.f x0).bind fun t179 => ((matrix_Mul.f k bt175.1 t179).bind fun bt182 => ((culletlaw10_twin.f x0).bind fun t186 => ((matrix_Mul.f k t186 bt175.1).bind fun bt189 => (if bt175.2 = 0 then (if bt182.2 = 0 then (if bt189.2 = 0 then ((culletlaw10_one.f k bt182.1 x7).bind fun t193 => (if t193 = true then ((culletlaw10_one.f k bt189.1 x7).bind fun t194 => (culletlaw10_MatrixInverse.j3 k x0 x1 x7 (!t194))) else (culletlaw10_MatrixInverse.j3 k x0 x1 x7 true))) else (culletlaw10_MatrixInverse.j3 k x0 x1 x7 true)) else (culletlaw10_MatrixInverse.j3 k x0 x1 x7 true)) else (culletlaw10_MatrixInverse.j3 k x0 x1 x7 true)))))))))
def culletlaw10_MatrixInverse.j3 : Nat → List (List Int) → List (List Int) → Int → Bool → Option (Bool)
  | 0, _, _, _, _ => none
  | k + 1, x0, x1, x7, x121 => if x121 = true then (some false) else ((culletlaw10_side.f k x1).bind fun t195 => (if t195 = x7 then ((culletlaw10_twin.f x0).bind fun t196 => ((culletlaw10_twin.f x1).bind fun t199 => ((matrix_Mul.f k t196 t199).bind fun bt202 => ((culletlaw10_twin.f x0).bind fun t206 => ((matrix_Solve.f t206 bt202.1).bind fun bt209 => (if bt202.2 = 0 then (if bt209.2 = 0 then ((culletlaw10_same.f k bt209.1 x1).bind fun t213 => (some t213)) else (some false)) else (some false))))))) else (some true)))
end
def culletlaw10_MatrixInverse.f (k : Nat) (l0 : List (List Int)) (l1 : List (List Int)) : Option (Bool) := (matrix_Invert.f k (([(([2] : List Int))] : List (List Int)))).bind fun bt149 => (if bt149.2 = 0 then ((culletlaw10_same.f k bt149.1 (([(([142] : List Int))] : List (List Int)))).bind fun t159 => (culletlaw10_MatrixInverse.j0 k l0 l1 (!t159))) else (culletlaw10_MatrixInverse.j0 k l0 l1 true))
theorem culletlaw10_MatrixInverse.mono_l : ∀ k, (∀ y0 y1 y2, LeO (culletlaw10_MatrixInverse.j0 k y0 y1 y2) (culletlaw10_MatrixInverse.j0 (k + 1) y0 y1 y2)) ∧ (∀ y0 y1 y2 y3, LeO (culletlaw10_MatrixInverse.j1 k y0 y1 y2 y3) (culletlaw10_MatrixInverse.j1 (k + 1) y0 y1 y2 y3)) ∧ (∀ y0 y1 y2 y3 y4, LeO (culletlaw10_MatrixInverse.j2 k y0 y1 y2 y3 y4) (culletlaw10_MatrixInverse.j2 (k + 1) y0 y1 y2 y3 y4)) ∧ (∀ y0 y1 y2 y3, LeO (culletlaw10_MatrixInverse.j3 k y0 y1 y2 y3) (culletlaw10_MatrixInverse.j3 (k + 1) y0 y1 y2 y3))
  | 0 => ⟨fun _ _ _ r h => by simp [culletlaw10_MatrixInverse.j0] at h, fun _ _ _ _ r h => by simp [culletlaw10_MatrixInverse.j1] at h, fun _ _ _ _ _ r h => by simp [culletlaw10_MatrixInverse.j2] at h, fun _ _ _ _ r h => by simp [culletlaw10_MatrixInverse.j3] at h⟩
  | k + 1 => by
    obtain ⟨ih0, ih1, ih2, ih3⟩ := culletlaw10_MatrixInverse.mono_l k
    refine ⟨?_, ?_, ?_, ?_⟩
    · intro y0 y1 y2
      unfold culletlaw10_MatrixInverse.j0
      repeat' first
      | (with_reducible exact ih0 _ _ _)
      | (with_reducible exact ih1 _ _ _ _)
      | (with_reducible exact ih2 _ _ _ _ _)
      | (with_reducible exact ih3 _ _ _ _)
      | (with_reducible exact culletlaw10_one.mono _ _ _)
      | (with_reducible exact culletlaw10_same.mono _ _ _)
      | (with_reducible exact culletlaw10_side.mono _ _)
      | (with_reducible exact matrix_Invert.mono _ _)
      | (with_reducible exact matrix_Mul.mono _ _ _)
      | (with_reducible exact LeO.refl _)
      | (with_reducible exact LeO.none _)
      | (with_reducible refine LeO.ite ?_ ?_)
      | (with_reducible refine LeO.bind ?_ (fun _ => ?_))
      | exact ih0 _ _ _
      | exact ih1 _ _ _ _
      | exact ih2 _ _ _ _ _
      | exact ih3 _ _ _ _
      | exact culletlaw10_one.mono _ _ _
      | exact culletlaw10_same.mono _ _ _
      | exact culletlaw10_side.mono _ _
      | exact matrix_Invert.mono _ _
      | exact matrix_Mul.mono _ _ _
      | exact LeO.none _
      | refine LeO.ite ?_ ?_
      | refine LeO.bind ?_ (fun _ => ?_)
    · intro y0 y1 y2 y3
      unfold culletlaw10_MatrixInverse.j1
      repeat' first
      | (with_reducible exact ih0 _ _ _)
      | (with_reducible exact ih1 _ _ _ _)
      | (with_reducible exact ih2 _ _ _ _ _)
      | (with_reducible exact ih3 _ _ _ _)
      | (with_reducible exact culletlaw10_one.mono _ _ _)
      | (with_reducible exact culletlaw10_same.mono _ _ _)
      | (with_reducible exact culletlaw10_side.mono _ _)
      | (with_reducible exact matrix_Invert.mono _ _)
      | (with_reducible exact matrix_Mul.mono _ _ _)
      | (with_reducible exact LeO.refl _)
      | (with_reducible exact LeO.none _)
      | (with_reducible refine LeO.ite ?_ ?_)
      | (with_reducible refine LeO.bind ?_ (fun _ => ?_))
      | exact ih0 _ _ _
      | exact ih1 _ _ _ _
      | exact ih2 _ _ _ _ _
      | exact ih3 _ _ _ _
      | exact culletlaw10_one.mono _ _ _
      | exact culletlaw10_same.mono _ _ _
      | exact culletlaw10_side.mono _ _
      | exact matrix_Invert.mono _ _
      | exact matrix_Mul.mono _ _ _
      | exact LeO.none _
      | refine LeO.ite ?_ ?_
      | refine LeO.bind ?_ (fun _ => ?_)
    · intro y0 y1 y2 y3 y4
      unfold culletlaw10_MatrixInverse.j2
      repeat' first
      | (with_reducible exact ih0 _ _ _)
      | (with_reducible exact ih1 _ _ _ _)
      | (with_reducible exact ih2 _ _ _ _ _)
      | (with_reducible exact ih3 _ _ _ _)
      | (with_reducible exact culletlaw10_one.mono _ _ _)
      | (with_reducible exact culletlaw10_same.mono _ _ _)
      | (with_reducible exact culletlaw10_side.mono _ _)
      | (with_reducible exact matrix_Invert.mono _ _)
      | (with_reducible exact matrix_Mul.mono _ _ _)
      | (with_reducible exact LeO.refl _)
      | (with_reducible exact LeO.none _)
      | (with_reducible refine LeO.ite ?_ ?_)
      | (with_reducible refine LeO.bind ?_ (fun _ => ?_))
      | exact ih0 _ _ _
      | exact ih1 _ _ _ _
      | exact ih2 _ _ _ _ _
      | exact ih3 _ _ _ _
      | exact culletlaw10_one.mono _ _ _
      | exact culletlaw10_same.mono _ _ _
      | exact culletlaw10_side.mono _ _
      | exact matrix_Invert.mono _ _
      | exact matrix_Mul.mono _ _ _
      | exact LeO.none _
      | refine LeO.ite ?_ ?_
      | refine LeO.bind ?_ (fun _ => ?_)
    · intro y0 y1 y2 y3
      unfold culletlaw10_MatrixInverse.j3
      repeat' first
      | (with_reducible exact ih0 _ _ _)
      | (with_reducible exact ih1 _ _ _ _)
      | (with_reducible exact ih2 _ _ _ _ _)
      | (with_reducible exact ih3 _ _ _ _)
      | (with_reducible exact culletlaw10_one.mono _ _ _)
      | (with_reducible exact culletlaw10_same.mono _ _ _)
      | (with_reducible exact culletlaw10_side.mono _ _)
      | (with_reducible exact matrix_Invert.mono _ _)
      | (with_reducible exact matrix_Mul.mono _ _ _)
      | (with_reducible exact LeO.refl _)
      | (with_reducible exact LeO.none _)
      | (with_reducible refine LeO.ite ?_ ?_)
      | (with_reducible refine LeO.bind ?_ (fun _ => ?_))
      | exact ih0 _ _ _
      | exact ih1 _ _ _ _
      | exact ih2 _ _ _ _ _
      | exact ih3 _ _ _ _
      | exact culletlaw10_one.mono _ _ _
      | exact culletlaw10_same.mono _ _ _
      | exact culletlaw10_side.mono _ _
      | exact matrix_Invert.mono _ _
      | exact matrix_Mul.mono _ _ _
      | exact LeO.none _
      | refine LeO.ite ?_ ?_
      | refine LeO.bind ?_ (fun _ => ?_)
theorem culletlaw10_MatrixInverse.mono : ∀ a0 a1 k, LeO (culletlaw10_MatrixInverse.f k a0 a1) (culletlaw10_MatrixInverse.f (k + 1) a0 a1) := by
  intro a0 a1 k
  obtain ⟨ih0, ih1, ih2, ih3⟩ := culletlaw10_MatrixInverse.mono_l k
  unfold culletlaw10_MatrixInverse.f
  repeat' first
      | (with_reducible exact ih0 _ _ _)
      | (with_reducible exact ih1 _ _ _ _)
      | (with_reducible exact ih2 _ _ _ _ _)
      | (with_reducible exact ih3 _ _ _ _)
      | (with_reducible exact culletlaw10_one.mono _ _ _)
      | (with_reducible exact culletlaw10_same.mono _ _ _)
      | (with_reducible exact culletlaw10_side.mono _ _)
      | (with_reducible exact matrix_Invert.mono _ _)
      | (with_reducible exact matrix_Mul.mono _ _ _)
      | (with_reducible exact LeO.refl _)
      | (with_reducible exact LeO.none _)
      | (with_reducible refine LeO.ite ?_ ?_)
      | (with_reducible refine LeO.bind ?_ (fun _ => ?_))
      | exact ih0 _ _ _
      | exact ih1 _ _ _ _
      | exact ih2 _ _ _ _ _
      | exact ih3 _ _ _ _
      | exact culletlaw10_one.mono _ _ _
      | exact culletlaw10_same.mono _ _ _
      | exact culletlaw10_side.mono _ _
      | exact matrix_Invert.mono _ _
      | exact matrix_Mul.mono _ _ _
      | exact LeO.none _
      | refine LeO.ite ?_ ?_
      | refine LeO.bind ?_ (fun _ => ?_)
set_option maxHeartbeats 8000000 in
set_option maxRecDepth 100000 in
theorem culletlaw10_MatrixInverse.calls (k : Nat) (A0 : Option Addr) (c0 : Nat) (l0 : List (List Int)) (A1 : Option Addr) (c1 : Nat) (l1 : List (List Int)) (r : Bool) (w : World) (hr0 : Kd.C (Kd.slice 5 (Kd.int .u8)) w A0 l0.length l0) (hc0 : l0.length ≤ c0) (hr1 : Kd.C (Kd.slice 5 (Kd.int .u8)) w A1 l1.length l1) (hc1 : l1.length ≤ c1) (h : culletlaw10_MatrixInverse.f k l0 l1 = some r) :
    Calls Try.prog 8 #[.slice A0 l0.length c0, .slice A1 l1.length c1] w fun e w' => e = .returned (.bool r) ∧ Below w.heap.size w w' := by
  have HR0 := Aside0.mk hr0
  have HC0 := Aside0.mk hc0
  clear hr0 hc0
  have HR1 := Aside0.mk hr1
  have HC1 := Aside0.mk hc1
  clear hr1 hc1
  have HB := Aside0.mk (Below.refl w.heap.size w)
  have H : ((matrix_Invert.f k (([(([2] : List Int))] : List (List Int)))).bind fun bt149 => (if bt149.2 = 0 then ((culletlaw10_same.f k bt149.1 (([(([142] : List Int))] : List (List Int)))).bind fun t159 => (culletlaw10_MatrixInverse.j0 k l0 l1 (!t159))) else (culletlaw10_MatrixInverse.j0 k l0 l1 true))) = some r := h
  clear h
  obtain ⟨y143, hy143⟩ : ∃ y_ : List Int, y_ = (([2] : List Int)) := ⟨_, rfl⟩
  replace H : ((matrix_Invert.f k (([y143] : List (List Int)))).bind fun bt149 => (if bt149.2 = 0 then ((culletlaw10_same.f k bt149.1 (([(([142] : List Int))] : List (List Int)))).bind fun t159 => (culletlaw10_MatrixInverse.j0 k l0 l1 (!t159))) else (culletlaw10_MatrixInverse.j0 k l0 l1 true))) = some r := by first | (rw [hy143]; with_reducible exact H) | (have H2_ := (Option.bind_some _ _).symm.trans H; rw [hy143]; with_reducible exact H2_) | (have H2_ := (Option.bind_some _ _).symm.trans H; with_reducible exact H2_) | with_reducible exact H | (rw [hy143]; exact H) | exact H
  have Ny143 := Aside0.mk hy143
  clear hy143
  obtain ⟨y146, hy146⟩ : ∃ y_ : List (List Int), y_ = (([y143] : List (List Int))) := ⟨_, rfl⟩
  replace H : ((matrix_Invert.f k y146).bind fun bt149 => (if bt149.2 = 0 then ((culletlaw10_same.f k bt149.1 (([(([142] : List Int))] : List (List Int)))).bind fun t159 => (culletlaw10_MatrixInverse.j0 k l0 l1 (!t159))) else (culletlaw10_MatrixInverse.j0 k l0 l1 true))) = some r := by first | (rw [hy146]; with_reducible exact H) | (have H2_ := (Option.bind_some _ _).symm.trans H; rw [hy146]; with_reducible exact H2_) | (have H2_ := (Option.bind_some _ _).symm.trans H; with_reducible exact H2_) | with_reducible exact H | (rw [hy146]; exact H) | exact H
  have Ny146 := Aside0.mk hy146
  clear hy146
  replace H := Option.bind_eq_some_iff.mp H
  obtain ⟨⟨t149, t150⟩, A30, H⟩ := H
  replace H : (if t150 = 0 then ((culletlaw10_same.f k t149 (([(([142] : List Int))] : List (List Int)))).bind fun t159 => (culletlaw10_MatrixInverse.j0 k l0 l1 (!t159))) else (culletlaw10_MatrixInverse.j0 k l0 l1 true)) = some r := H
  have A3 := Aside0.mk A30
  clear A30
  have HC4 := Aside0.mk H
  clear H
  go_enter Try.func8, Try.ntmps8
  go_upto_region 2 with (first | ((with_reducible refine gate_dst (N := 17) rfl ?_); (try (refine gate_guard (by rfl) ?_; dsimp only)); refine Kd.R_lit (Kd.int .u8) _ 5 ?hg (N := 17) ?hd (xs := ([2] : List Int)) (inner := [.int .u8 2]) (ok := fun _ => True) (okp := fun _ => True) ?hr ?hp (fun _ hk => hk) trivial (Below.refl _ _) (Nat.le_refl _) (by simp) ?_; (case hd => rfl); (case hg => rfl); (case hr => first | (go_simp; done) | (go_simp; rfl)); (case hp => exact (Reps.one (show Kd.M (Kd.int .u8) _ _ _ 2 [.int .u8 2] from rfl) (Reps.none _ _))); intro v144 w5 ho6 hb hg_ hnew_; clear hg_ hnew_; (first | rw [← Ny143.out] at ho6 | (simp only [Int.reduceToNat] at ho6; rw [← Ny143.out] at ho6)); have n0_ := Aside0.mk (Kd.R_lower ho6 (below_size (by repeat (first | (with_reducible first | exact HB.out | apply below_alloc | apply pw_below_drewN | apply below_drew1) | exact HB.out)))); have n1_ := Aside0.mk (below_step (by repeat (first | (with_reducible first | exact HB.out | apply below_alloc | apply pw_below_drewN | apply below_drew1) | exact HB.out)) hb); clear HB; have HO145 := n0_; have HB := n1_; clear n0_ n1_; clear hb ho6; obtain ⟨Ao7, co7, eo7⟩ := Kd.R_slice HO145.out; subst eo7) | ((with_reducible refine gate_dst (N := 18) rfl ?_); (try (refine gate_guard (by rfl) ?_; dsimp only)); refine Kd.N_lit (Kd.slice 5 (Kd.int .u8)) _ 31 ?hg (N' := 18) ?hd (xs := ([y143] : List (List Int))) (inner := [.slice Ao7 y143.length co7]) (ok := (fun _ => True)) (okp := (fun _ => True)) ?hr ?hp (fun _ hk => hk) ((show ∀ k_, w5.heap.size ≤ k_ → (fun _ => True) k_ from fun k_ hk => trivial) _ (Nat.le_refl _)) (Below.refl _ _) (Nat.le_refl _) (by simp) ?_; (case hd => rfl); (case hg => rfl); (case hr => first | (go_simp; done) | (go_simp; rfl)); (case hp => exact (Reps.one (show Kd.FK (Kd.slice 5 (Kd.int .u8)) _ _ y143 [.slice Ao7 y143.length co7] from (Kd.FK_slice_mk (Kd.R_reads' (Kd.R_mono (ok' := (fun _ => True)) (HO145.out) (fun k_ hk => trivial))).2.1 (Kd.R_F (Kd.R_mono (ok' := (fun _ => True)) (HO145.out) (fun k_ hk => trivial))))) (Reps.none _ _))); intro v147 w8 ho9 hb hg_ hnew_; clear hg_ hnew_; (first | rw [← Ny146.out] at ho9 | (simp only [Int.reduceToNat] at ho9; rw [← Ny146.out] at ho9)); have n0_ := Aside0.mk (Kd.N_lower ho9 (below_size (by repeat (first | (with_reducible first | exact HB.out | apply below_alloc | apply pw_below_drewN | apply below_drew1) | exact HB.out)))); have n1_ := Aside0.mk (below_step (by repeat (first | (with_reducible first | exact HB.out | apply below_alloc | apply pw_below_drewN | apply below_drew1) | exact HB.out)) hb); clear HB; clear HO145; have HO148 := n0_; have HB := n1_; clear n0_ n1_; clear hb ho9; obtain ⟨Ao10, co10, eo10⟩ := Kd.N_slice HO148.out; subst eo10) | ((with_reducible refine gate_callee (f := 32) rfl ?_); refine goesL_ (some 19) rfl rfl Try.func32 (by kernel_rfl) rfl #[.slice Ao10 y146.length co10] rfl (by (try simp only [List.map_toArray, List.map_cons, List.map_nil]); first | done | rfl | (simp only [tb_wrap8]; done) | (simp only [tb_wrap8]; rfl) | (simp only [List.length_drop, List.length_take]; rfl)) ?_; (with_reducible refine (matrix_Invert.calls k _ _ y146 t149 t150 _ ?side1 ?side2 A3.out).mono ?_); (case side1 => repeat (first | exact (Kd.N_reads' HO148.out).2.2 | (with_reducible refine Kd.C_alloc ?_ _) | (with_reducible refine Kd.C_drewN ?_ _) | (with_reducible refine Kd.C_drew ?_))); (case side2 => exact (Kd.N_reads' HO148.out).2.1); rintro e w11 ⟨v151, rfl, ho0, hb⟩; refine ⟨_, rfl, ?_⟩; have n0_ := Aside0.mk (Kd.N_elder' (by (with_reducible repeat (first | apply Kd.N_alloc | apply Kd.N_drewN | apply Kd.N_drew)); exact HO148.out) (by first | exact Kd.N_base ho0 | exact Kd.S_base ho0) hb); have n1_ := Aside0.mk (Kd.N_lower (Kd.N_mono (ok' := fun k_ => some k_ ≠ (.slice Ao10 y146.length co10 : Value).ownBlock) (Kd.S_N (Kd.S_bound ho0)) (fun k_ hk_ => (Kd.fresh' (Kd.N_lt (by (with_reducible repeat (first | apply Kd.N_alloc | apply Kd.N_drewN | apply Kd.N_drew)); exact HO148.out)) k_ hk_.2.1))) (below_size (by repeat (first | (with_reducible first | exact HB.out | apply below_alloc | apply pw_below_drewN | apply below_drew1) | exact HB.out)))); have n2_ := Aside0.mk (below_step (by repeat (first | (with_reducible first | exact HB.out | apply below_alloc | apply pw_below_drewN | apply below_drew1) | exact HB.out)) hb); clear HO148; clear HB; have HO148 := n0_; have HO152 := n1_; have HB := n2_; clear n0_ n1_ n2_; (try clear hb); (try clear hb2); (try clear hk); (try clear hi); (try clear ho0)))
  (try simp only [Act.put, List.setIfInBounds_toArray, List.set_cons_zero, List.set_cons_succ])
  go_cut [30] (fun v30 wc => ∃ (kq : Nat) (x30_3 : Bool), v30 = .bool x30_3 ∧ Aside0 (culletlaw10_MatrixInverse.j0 kq l0 l1 x30_3 = some r) ∧ Aside0 (kq ≤ k) ∧ Aside0 (Below w.heap.size w wc))
  case first =>
    have H := HC4.out
    clear HC4
    by_cases c12 : t150 = 0
    · rw [if_pos c12] at H
      have c12b0 : (t150 == 0) = true := beq_iff_eq.mpr c12
      have c12b1 : (t150 != 0) = false := bne_eq_false_iff_eq.mpr c12
      clear c12
      (first | rw [c12b0] | (simp only [i64_w, i32_w]; rw [c12b0]) | skip)
      obtain ⟨y153, hy153⟩ : ∃ y_ : List Int, y_ = (([142] : List Int)) := ⟨_, rfl⟩
      replace H : ((culletlaw10_same.f k t149 (([y153] : List (List Int)))).bind fun t159 => (culletlaw10_MatrixInverse.j0 k l0 l1 (!t159))) = some r := by first | (rw [hy153]; with_reducible exact H) | (have H2_ := (Option.bind_some _ _).symm.trans H; rw [hy153]; with_reducible exact H2_) | (have H2_ := (Option.bind_some _ _).symm.trans H; with_reducible exact H2_) | with_reducible exact H | (rw [hy153]; exact H) | exact H
      have Ny153 := Aside0.mk hy153
      clear hy153
      obtain ⟨y156, hy156⟩ : ∃ y_ : List (List Int), y_ = (([y153] : List (List Int))) := ⟨_, rfl⟩
      replace H : ((culletlaw10_same.f k t149 y156).bind fun t159 => (culletlaw10_MatrixInverse.j0 k l0 l1 (!t159))) = some r := by first | (rw [hy156]; with_reducible exact H) | (have H2_ := (Option.bind_some _ _).symm.trans H; rw [hy156]; with_reducible exact H2_) | (have H2_ := (Option.bind_some _ _).symm.trans H; with_reducible exact H2_) | with_reducible exact H | (rw [hy156]; exact H) | exact H
      have Ny156 := Aside0.mk hy156
      clear hy156
      replace H := Option.bind_eq_some_iff.mp H
      obtain ⟨t159, A130, H⟩ := H
      replace H : (culletlaw10_MatrixInverse.j0 k l0 l1 (!t159)) = some r := H
      have A13 := Aside0.mk A130
      clear A130
      have H' := Aside0.mk H
      clear H
      go_wp2_with (first | ((with_reducible refine gate_dst (N := 26) rfl ?_); (try (refine gate_guard (by rfl) ?_; dsimp only)); refine Kd.R_lit (Kd.int .u8) _ 5 ?hg (N := 26) ?hd (xs := ([142] : List Int)) (inner := [.int .u8 142]) (ok := fun _ => True) (okp := fun _ => True) ?hr ?hp (fun _ hk => hk) trivial (Below.refl _ _) (Nat.le_refl _) (by simp) ?_; (case hd => rfl); (case hg => rfl); (case hr => first | (go_simp; done) | (go_simp; rfl)); (case hp => exact (Reps.one (show Kd.M (Kd.int .u8) _ _ _ 142 [.int .u8 142] from rfl) (Reps.none _ _))); intro v154 w14 ho15 hb hg_ hnew_; clear hg_ hnew_; (first | rw [← Ny153.out] at ho15 | (simp only [Int.reduceToNat] at ho15; rw [← Ny153.out] at ho15)); have n0_ := Aside0.mk (Kd.N_elder' (by (with_reducible repeat (first | apply Kd.N_alloc | apply Kd.N_drewN | apply Kd.N_drew)); exact HO148.out) (Kd.R_base ho15) hb); have n1_ := Aside0.mk (Kd.N_elder' (by (with_reducible repeat (first | apply Kd.N_alloc | apply Kd.N_drewN | apply Kd.N_drew)); exact HO152.out) (Kd.R_base ho15) hb); have n2_ := Aside0.mk (Kd.R_lower ho15 (below_size (by repeat (first | (with_reducible first | exact HB.out | apply below_alloc | apply pw_below_drewN | apply below_drew1) | exact HB.out)))); have n3_ := Aside0.mk (below_step (by repeat (first | (with_reducible first | exact HB.out | apply below_alloc | apply pw_below_drewN | apply below_drew1) | exact HB.out)) hb); clear HO148; clear HO152; clear HB; have HO148 := n0_; have HO152 := n1_; have HO155 := n2_; have HB := n3_; clear n0_ n1_ n2_ n3_; clear hb ho15; obtain ⟨Ao16, co16, eo16⟩ := Kd.R_slice HO155.out; subst eo16) | ((with_reducible refine gate_dst (N := 27) rfl ?_); (try (refine gate_guard (by rfl) ?_; dsimp only)); refine Kd.N_lit (Kd.slice 5 (Kd.int .u8)) _ 31 ?hg (N' := 27) ?hd (xs := ([y153] : List (List Int))) (inner := [.slice Ao16 y153.length co16]) (ok := (fun k_ => some k_ ≠ (.slice Ao10 y146.length co10 : Value).ownBlock ∧ some k_ ≠ (v151 : Value).ownBlock)) (okp := (fun k_ => some k_ ≠ (.slice Ao10 y146.length co10 : Value).ownBlock ∧ some k_ ≠ (v151 : Value).ownBlock)) ?hr ?hp (fun _ hk => hk) ((show ∀ k_, w14.heap.size ≤ k_ → (fun k_ => some k_ ≠ (.slice Ao10 y146.length co10 : Value).ownBlock ∧ some k_ ≠ (v151 : Value).ownBlock) k_ from fun k_ hk => ⟨Kd.fresh' (Kd.N_lt (by (with_reducible repeat (first | apply Kd.N_alloc | apply Kd.N_drewN | apply Kd.N_drew)); exact HO148.out)) k_ hk, Kd.fresh' (Kd.N_lt (by (with_reducible repeat (first | apply Kd.N_alloc | apply Kd.N_drewN | apply Kd.N_drew)); exact HO152.out)) k_ hk⟩) _ (Nat.le_refl _)) (Below.refl _ _) (Nat.le_refl _) (by simp) ?_; (case hd => rfl); (case hg => rfl); (case hr => first | (go_simp; done) | (go_simp; rfl)); (case hp => exact (Reps.one (show Kd.FK (Kd.slice 5 (Kd.int .u8)) _ _ y153 [.slice Ao16 y153.length co16] from (Kd.FK_slice_mk (Kd.R_reads' (Kd.R_mono (ok' := (fun k_ => some k_ ≠ (.slice Ao10 y146.length co10 : Value).ownBlock ∧ some k_ ≠ (v151 : Value).ownBlock)) (Kd.R_apart' (Kd.R_apart' (HO155.out) (Kd.N_typed HO148.out) (by decide)) (Kd.N_typed HO152.out) (by decide)) (fun k_ hk => ⟨hk.1.2, hk.2⟩))).2.1 (Kd.R_F (Kd.R_mono (ok' := (fun k_ => some k_ ≠ (.slice Ao10 y146.length co10 : Value).ownBlock ∧ some k_ ≠ (v151 : Value).ownBlock)) (Kd.R_apart' (Kd.R_apart' (HO155.out) (Kd.N_typed HO148.out) (by decide)) (Kd.N_typed HO152.out) (by decide)) (fun k_ hk => ⟨hk.1.2, hk.2⟩))))) (Reps.none _ _))); intro v157 w17 ho18 hb hg_ hnew_; clear hg_ hnew_; (first | rw [← Ny156.out] at ho18 | (simp only [Int.reduceToNat] at ho18; rw [← Ny156.out] at ho18)); have n0_ := Aside0.mk (Kd.N_elder' (by (with_reducible repeat (first | apply Kd.N_alloc | apply Kd.N_drewN | apply Kd.N_drew)); exact HO148.out) (Kd.N_base ho18) hb); have n1_ := Aside0.mk (Kd.N_elder' (by (with_reducible repeat (first | apply Kd.N_alloc | apply Kd.N_drewN | apply Kd.N_drew)); exact HO152.out) (Kd.N_base ho18) hb); have n2_ := Aside0.mk (Kd.N_lower ho18 (below_size (by repeat (first | (with_reducible first | exact HB.out | apply below_alloc | apply pw_below_drewN | apply below_drew1) | exact HB.out)))); have n3_ := Aside0.mk (below_step (by repeat (first | (with_reducible first | exact HB.out | apply below_alloc | apply pw_below_drewN | apply below_drew1) | exact HB.out)) hb); clear HO148; clear HO152; clear HB; clear HO155; have HO148 := n0_; have HO152 := n1_; have HO158 := n2_; have HB := n3_; clear n0_ n1_ n2_ n3_; clear hb ho18; obtain ⟨Ao19, co19, eo19⟩ := Kd.N_slice HO152.out; subst eo19; obtain ⟨Ao20, co20, eo20⟩ := Kd.N_slice HO158.out; subst eo20) | (go_at_call 24; (with_reducible refine (culletlaw10_same.calls k _ _ t149 _ _ y156 t159 _ ?side1 ?side2 ?side3 ?side4 A13.out).mono ?_); (case side1 => repeat (first | exact (Kd.N_reads' HO152.out).2.2 | (with_reducible refine Kd.C_alloc ?_ _) | (with_reducible refine Kd.C_drewN ?_ _) | (with_reducible refine Kd.C_drew ?_))); (case side2 => exact (Kd.N_reads' HO152.out).2.1); (case side3 => repeat (first | exact (Kd.N_reads' HO158.out).2.2 | (with_reducible refine Kd.C_alloc ?_ _) | (with_reducible refine Kd.C_drewN ?_ _) | (with_reducible refine Kd.C_drew ?_))); (case side4 => exact (Kd.N_reads' HO158.out).2.1); rintro e w' ⟨rfl, ⟨nd, rfl⟩⟩))
      go_meet
      case rel => exact ⟨_, (!t159), (by first | rfl | (simp; done) | (simp [*]; done)), H', ⟨by first | omega | exact Nat.le_refl _⟩, ⟨by repeat (first | (with_reducible first | exact HB.out | apply below_alloc | apply pw_below_drewN | apply below_drew1) | exact HB.out)⟩⟩
    · rw [if_neg c12] at H
      have c12b0 : (t150 == 0) = false := beq_eq_false_iff_ne.mpr c12
      have c12b1 : (t150 != 0) = true := bne_iff_ne.mpr c12
      (first | rw [c12b0] | (simp only [i64_w, i32_w]; rw [c12b0]) | skip)
      have H' := Aside0.mk H
      clear H
      go_wp2
      go_meet
      case rel => exact ⟨_, (true), (by first | rfl | (simp; done) | (simp [*]; done)), H', ⟨by first | omega | exact Nat.le_refl _⟩, ⟨by repeat (first | (with_reducible first | exact HB.out | apply below_alloc | apply pw_below_drewN | apply below_drew1) | exact HB.out)⟩⟩
  case rest =>
    clear HC4
    try clear c1
    try clear p2
    try clear c3
    try clear c8
    try clear p8
    try clear c12
    try clear c12b0
    try clear c12b1
    obtain ⟨kq, x30_3, rfl, HA, HJ3, HB⟩ := hcut
    cases kq with
    | zero => exact absurd HA.out (by simp [culletlaw10_MatrixInverse.j0])
    | succ kj3 =>
      have H := HA.out
      clear HA
      simp only [culletlaw10_MatrixInverse.j0] at H
      by_cases c21 : x30_3 = true
      · subst c21
        have H1 : (some false) = some r := by rw [if_pos rfl] at H; exact H
        clear H
        have H := H1
        clear H1
        obtain rfl := Option.some.inj H
        go_wp2
        go_ret
        exact ⟨by first | rfl | (simp [errW_none, errW_some] <;> rfl) | (simp [*, errW_none, errW_some] <;> rfl), by repeat (first | (with_reducible first | exact HB.out | apply below_alloc | apply pw_below_drewN | apply below_drew1) | exact HB.out)⟩
      · replace c21 := Bool.eq_false_iff.mpr c21
        subst c21
        have H1 : ((culletlaw10_side.f kj3 l0).bind fun t160 => (if t160 = 0 then (culletlaw10_MatrixInverse.j1 kj3 l0 l1 t160 true) else (if 0 < (l0.length : Int) then (if ((rd_L1 l0 0).length : Int) = t160 then (culletlaw10_MatrixInverse.j1 kj3 l0 l1 t160 (decide (t160 > 64))) else (culletlaw10_MatrixInverse.j1 kj3 l0 l1 t160 true)) else (none)))) = some r := by rw [if_neg (show ¬ (false = true) by decide)] at H; exact H
        clear H
        have H := H1
        clear H1
        replace H := Option.bind_eq_some_iff.mp H
        obtain ⟨t160, A220, H⟩ := H
        replace H : (if t160 = 0 then (culletlaw10_MatrixInverse.j1 kj3 l0 l1 t160 true) else (if 0 < (l0.length : Int) then (if ((rd_L1 l0 0).length : Int) = t160 then (culletlaw10_MatrixInverse.j1 kj3 l0 l1 t160 (decide (t160 > 64))) else (culletlaw10_MatrixInverse.j1 kj3 l0 l1 t160 true)) else (none))) = some r := H
        have A22 := Aside0.mk A220
        clear A220
        have HC23 := Aside0.mk H
        clear H
        go_upto_region 5 with (first | ((with_reducible refine gate_callee (f := 19) rfl ?_); refine goesL_ (some 32) rfl rfl Try.func19 (by kernel_rfl) rfl #[.slice A0 l0.length c0] rfl (by (try simp only [List.map_toArray, List.map_cons, List.map_nil]); first | done | rfl | (simp only [tb_wrap8]; done) | (simp only [tb_wrap8]; rfl) | (simp only [List.length_drop, List.length_take]; rfl)) ?_; (with_reducible refine (culletlaw10_side.calls kj3 _ _ l0 t160 _ ?side1 ?side2 A22.out).mono ?_); (case side1 => repeat (first | exact (Kd.C_below HR0.out HB.out) | (with_reducible refine Kd.C_alloc ?_ _) | (with_reducible refine Kd.C_drewN ?_ _) | (with_reducible refine Kd.C_drew ?_))); (case side2 => exact HC0.out); rintro e w' ⟨rfl, ⟨nd, rfl⟩⟩; refine ⟨_, rfl, ?_⟩))
        (try simp only [Act.put, List.setIfInBounds_toArray, List.set_cons_zero, List.set_cons_succ])
        go_cut [46] (fun v46 wc => ∃ (kq : Nat) (x46_22 : Bool), v46 = .bool x46_22 ∧ Aside0 (culletlaw10_MatrixInverse.j1 kq l0 l1 t160 x46_22 = some r) ∧ Aside0 (kq ≤ kj3) ∧ Aside0 (Below w.heap.size w wc))
        case first =>
          have H := HC23.out
          clear HC23
          by_cases c24 : t160 = 0
          · rw [if_pos c24] at H
            have c24b0 : (t160 == 0) = true := beq_iff_eq.mpr c24
            have c24b1 : (t160 != 0) = false := bne_eq_false_iff_eq.mpr c24
            clear c24
            (first | rw [c24b0] | (simp only [i64_w, i32_w]; rw [c24b0]) | skip)
            have H' := Aside0.mk H
            clear H
            go_wp2
            go_meet
            case rel => exact ⟨_, (true), (by first | rfl | (simp; done) | (simp [*]; done)), H', ⟨by have := HJ3.out; first | omega | exact Nat.le_refl _⟩, ⟨by repeat (first | (with_reducible first | exact HB.out | apply below_alloc | apply pw_below_drewN | apply below_drew1) | exact HB.out)⟩⟩
          · rw [if_neg c24] at H
            have c24b0 : (t160 == 0) = false := beq_eq_false_iff_ne.mpr c24
            have c24b1 : (t160 != 0) = true := bne_iff_ne.mpr c24
            (first | rw [c24b0] | (simp only [i64_w, i32_w]; rw [c24b0]) | skip)
            by_cases c25 : 0 < (l0.length : Int)
            · rw [if_pos c25] at H
              have c25b0 : decide (0 < (l0.length : Int)) = true := decide_eq_true c25
              have c25b1 : decide (0 < l0.length) = true := decide_eq_true (by omega)
              clear c25
              by_cases c26 : ((rd_L1 l0 0).length : Int) = t160
              · rw [if_pos c26] at H
                have c26b0 : (((rd_L1 l0 0).length : Int) == t160) = true := beq_iff_eq.mpr c26
                have c26b1 : (((rd_L1 l0 0).length : Int) != t160) = false := bne_eq_false_iff_eq.mpr c26
                clear c26
                have H' := Aside0.mk H
                clear H
                have p161 : 0 ≤ (0 : Int) := (by omega)
                have q161 : 0 < (l0.length : Int) := of_decide_eq_true (by first | (with_reducible assumption) | assumption)
                obtain ⟨ad161, A161_0, c161_0, e161, hx161_0, hl161_0, hi161_0⟩ := at_L1 HR0.out 0 p161 q161
                cases e161
                have qi161 : (0 < l0.length) = True := eq_true (by omega)
                (try rw [show ((0 : Int)).toNat = 0 from rfl] at hx161_0)
                (try rw [Addr.add_zero'] at hx161_0)
                replace hx161_0 := (HB.out.cell (World.block_lt_of_cell? w _ hx161_0)).trans hx161_0
                have HR161_0 := Aside0.mk hi161_0
                have HC161_0 := Aside0.mk hl161_0
                clear hi161_0 hl161_0
                replace p161 := eq_true p161
                replace q161 := eq_true q161
                go_wp2
                go_meet
                case rel => exact ⟨_, (decide (t160 > 64)), (by first | rfl | (simp; done) | (simp [*]; done)), H', ⟨by have := HJ3.out; first | omega | exact Nat.le_refl _⟩, ⟨by repeat (first | (with_reducible first | exact HB.out | apply below_alloc | apply pw_below_drewN | apply below_drew1) | exact HB.out)⟩⟩
              · rw [if_neg c26] at H
                have c26b0 : (((rd_L1 l0 0).length : Int) == t160) = false := beq_eq_false_iff_ne.mpr c26
                have c26b1 : (((rd_L1 l0 0).length : Int) != t160) = true := bne_iff_ne.mpr c26
                have H' := Aside0.mk H
                clear H
                have p161 : 0 ≤ (0 : Int) := (by omega)
                have q161 : 0 < (l0.length : Int) := of_decide_eq_true (by first | (with_reducible assumption) | assumption)
                obtain ⟨ad161, A161_0, c161_0, e161, hx161_0, hl161_0, hi161_0⟩ := at_L1 HR0.out 0 p161 q161
                cases e161
                have qi161 : (0 < l0.length) = True := eq_true (by omega)
                (try rw [show ((0 : Int)).toNat = 0 from rfl] at hx161_0)
                (try rw [Addr.add_zero'] at hx161_0)
                replace hx161_0 := (HB.out.cell (World.block_lt_of_cell? w _ hx161_0)).trans hx161_0
                have HR161_0 := Aside0.mk hi161_0
                have HC161_0 := Aside0.mk hl161_0
                clear hi161_0 hl161_0
                replace p161 := eq_true p161
                replace q161 := eq_true q161
                go_wp2
                go_meet
                case rel => exact ⟨_, (true), (by first | rfl | (simp; done) | (simp [*]; done)), H', ⟨by have := HJ3.out; first | omega | exact Nat.le_refl _⟩, ⟨by repeat (first | (with_reducible first | exact HB.out | apply below_alloc | apply pw_below_drewN | apply below_drew1) | exact HB.out)⟩⟩
            · rw [if_neg c25] at H
              exact absurd H (by simp)
        case rest =>
          clear HC23
          try clear c1
          try clear p1
          try clear q1
          try clear hx1
          try clear qi1
          try clear c2
          try clear p2
          try clear c3
          try clear c8
          try clear p8
          try clear c12
          try clear c12b0
          try clear c12b1
          try clear c16
          try clear p16
          try clear q16
          try clear hx16
          try clear qi16
          try clear c19
          try clear c21
          try clear c24
          try clear c24b0
          try clear c24b1
          try clear c25
          try clear c25b0
          try clear c25b1
          try clear c26
          try clear c26b0
          try clear c26b1
          try clear hx161_0
          try clear p161
          try clear p2
          try clear p8
          try clear q161
          obtain ⟨kq, x46_22, rfl, HA, HJ22, HB⟩ := hcut
          cases kq with
          | zero => exact absurd HA.out (by simp [culletlaw10_MatrixInverse.j1])
          | succ kj22 =>
            have H := HA.out
            clear HA
            simp only [culletlaw10_MatrixInverse.j1] at H
            by_cases c27 : x46_22 = true
            · subst c27
              have H1 : (some true) = some r := by rw [if_pos rfl] at H; exact H
              clear H
              have H := H1
              clear H1
              obtain rfl := Option.some.inj H
              go_wp2
              go_ret
              exact ⟨by first | rfl | (simp [errW_none, errW_some] <;> rfl) | (simp [*, errW_none, errW_some] <;> rfl), by repeat (first | (with_reducible first | exact HB.out | apply below_alloc | apply pw_below_drewN | apply below_drew1) | exact HB.out)⟩
            · replace c27 := Bool.eq_false_iff.mpr c27
              subst c27
              have H1 : ((culletlaw10_twin.f l0).bind fun t162 => ((matrix_Det.f t162).bind fun bt165 => (if bt165.2 = 0 then ((culletlaw10_twin.f l0).bind fun t167 => ((matrix_Rank.f t167).bind fun bt170 => (if bt170.2 = 0 then (culletlaw10_MatrixInverse.j2 kj22 l0 l1 t160 bt165.1 ((bt170.1 == t160) != (bt165.1 != 0))) else (culletlaw10_MatrixInverse.j2 kj22 l0 l1 t160 bt165.1 true)))) else (some false)))) = some r := by rw [if_neg (show ¬ (false = true) by decide)] at H; exact H
              clear H
              have H := H1
              clear H1
              replace H := Option.bind_eq_some_iff.mp H
              obtain ⟨t162, A280, H⟩ := H
              replace H : ((matrix_Det.f t162).bind fun bt165 => (if bt165.2 = 0 then ((culletlaw10_twin.f l0).bind fun t167 => ((matrix_Rank.f t167).bind fun bt170 => (if bt170.2 = 0 then (culletlaw10_MatrixInverse.j2 kj22 l0 l1 t160 bt165.1 ((bt170.1 == t160) != (bt165.1 != 0))) else (culletlaw10_MatrixInverse.j2 kj22 l0 l1 t160 bt165.1 true)))) else (some false))) = some r := H
              have A28 := Aside0.mk A280
              clear A280
              replace H := Option.bind_eq_some_iff.mp H
              obtain ⟨⟨t165, t166⟩, A290, H⟩ := H
              replace H : (if t166 = 0 then ((culletlaw10_twin.f l0).bind fun t167 => ((matrix_Rank.f t167).bind fun bt170 => (if bt170.2 = 0 then (culletlaw10_MatrixInverse.j2 kj22 l0 l1 t160 t165 ((bt170.1 == t160) != (t165 != 0))) else (culletlaw10_MatrixInverse.j2 kj22 l0 l1 t160 t165 true)))) else (some false)) = some r := H
              have A29 := Aside0.mk A290
              clear A290
              by_cases c30 : t166 = 0
              · rw [if_pos c30] at H
                have c30b0 : (t166 == 0) = true := beq_iff_eq.mpr c30
                have c30b1 : (t166 != 0) = false := bne_eq_false_iff_eq.mpr c30
                clear c30
                replace H := Option.bind_eq_some_iff.mp H
                obtain ⟨t167, A310, H⟩ := H
                replace H : ((matrix_Rank.f t167).bind fun bt170 => (if bt170.2 = 0 then (culletlaw10_MatrixInverse.j2 kj22 l0 l1 t160 t165 ((bt170.1 == t160) != (t165 != 0))) else (culletlaw10_MatrixInverse.j2 kj22 l0 l1 t160 t165 true))) = some r := H
                have A31 := Aside0.mk A310
                clear A310
                replace H := Option.bind_eq_some_iff.mp H
                obtain ⟨⟨t170, t171⟩, A320, H⟩ := H
                replace H : (if t171 = 0 then (culletlaw10_MatrixInverse.j2 kj22 l0 l1 t160 t165 ((t170 == t160) != (t165 != 0))) else (culletlaw10_MatrixInverse.j2 kj22 l0 l1 t160 t165 true)) = some r := H
                have A32 := Aside0.mk A320
                clear A320
                have HC33 := Aside0.mk H
                clear H
                go_upto_region 11 with (first | ((with_reducible refine gate_callee (f := 20) rfl ?_); refine goesL_ (some 49) rfl rfl Try.func20 (by kernel_rfl) rfl #[.slice A0 l0.length c0] rfl (by (try simp only [List.map_toArray, List.map_cons, List.map_nil]); first | done | rfl | (simp only [tb_wrap8]; done) | (simp only [tb_wrap8]; rfl) | (simp only [List.length_drop, List.length_take]; rfl)) ?_; (with_reducible refine (culletlaw10_twin.calls _ _ l0 t162 _ ?side1 ?side2 A28.out).mono ?_); (case side1 => repeat (first | exact (Kd.C_below HR0.out HB.out) | (with_reducible refine Kd.C_alloc ?_ _) | (with_reducible refine Kd.C_drewN ?_ _) | (with_reducible refine Kd.C_drew ?_))); (case side2 => exact HC0.out); rintro e w34 ⟨v163, rfl, ho0, hb⟩; refine ⟨_, rfl, ?_⟩; have n0_ := Aside0.mk (Kd.N_lower (Kd.N_mono (ok' := fun k_ => True) (Kd.S_N (Kd.S_bound ho0)) (fun k_ hk_ => trivial)) (below_size (by repeat (first | (with_reducible first | exact HB.out | apply below_alloc | apply pw_below_drewN | apply below_drew1) | exact HB.out)))); have n1_ := Aside0.mk (below_step (by repeat (first | (with_reducible first | exact HB.out | apply below_alloc | apply pw_below_drewN | apply below_drew1) | exact HB.out)) hb); clear HB; have HO164 := n0_; have HB := n1_; clear n0_ n1_; (try clear hb); (try clear hb2); (try clear hk); (try clear hi); (try clear ho0); obtain ⟨Ao35, co35, eo35⟩ := Kd.N_slice HO164.out; subst eo35) | ((with_reducible refine gate_callee (f := 18) rfl ?_); refine goesL_ (some 50) rfl rfl Try.func18 (by kernel_rfl) rfl #[.slice Ao35 t162.length co35] rfl (by (try simp only [List.map_toArray, List.map_cons, List.map_nil]); first | done | rfl | (simp only [tb_wrap8]; done) | (simp only [tb_wrap8]; rfl) | (simp only [List.length_drop, List.length_take]; rfl)) ?_; (with_reducible refine (matrix_Det.calls _ _ t162 t165 t166 _ ?side1 ?side2 A29.out).mono ?_); (case side1 => repeat (first | exact (Kd.N_reads' HO164.out).2.2 | (with_reducible refine Kd.C_alloc ?_ _) | (with_reducible refine Kd.C_drewN ?_ _) | (with_reducible refine Kd.C_drew ?_))); (case side2 => exact (Kd.N_reads' HO164.out).2.1); rintro e w36 ⟨rfl, hb⟩; refine ⟨_, rfl, ?_⟩; have n0_ := Aside0.mk (Kd.N_below (by (with_reducible repeat (first | apply Kd.N_alloc | apply Kd.N_drewN | apply Kd.N_drew)); exact HO164.out) hb); have n1_ := Aside0.mk (below_step (by repeat (first | (with_reducible first | exact HB.out | apply below_alloc | apply pw_below_drewN | apply below_drew1) | exact HB.out)) hb); clear HO164; clear HB; have HO164 := n0_; have HB := n1_; clear n0_ n1_; (try clear hb); (try clear hb2); (try clear hk); (try clear hi)) | ((with_reducible refine gate_callee (f := 20) rfl ?_); refine goesL_ (some 57) rfl rfl Try.func20 (by kernel_rfl) rfl #[.slice A0 l0.length c0] rfl (by (try simp only [List.map_toArray, List.map_cons, List.map_nil]); first | done | rfl | (simp only [tb_wrap8]; done) | (simp only [tb_wrap8]; rfl) | (simp only [List.length_drop, List.length_take]; rfl)) ?_; (with_reducible refine (culletlaw10_twin.calls _ _ l0 t167 _ ?side1 ?side2 A31.out).mono ?_); (case side1 => repeat (first | exact (Kd.C_below HR0.out HB.out) | (with_reducible refine Kd.C_alloc ?_ _) | (with_reducible refine Kd.C_drewN ?_ _) | (with_reducible refine Kd.C_drew ?_))); (case side2 => exact HC0.out); rintro e w37 ⟨v168, rfl, ho0, hb⟩; refine ⟨_, rfl, ?_⟩; have n0_ := Aside0.mk (Kd.N_elder' (by (with_reducible repeat (first | apply Kd.N_alloc | apply Kd.N_drewN | apply Kd.N_drew)); exact HO164.out) (by first | exact Kd.N_base ho0 | exact Kd.S_base ho0) hb); have n1_ := Aside0.mk (Kd.N_lower (Kd.N_mono (ok' := fun k_ => some k_ ≠ (.slice Ao35 t162.length co35 : Value).ownBlock) (Kd.S_N (Kd.S_bound ho0)) (fun k_ hk_ => (Kd.fresh' (Kd.N_lt (by (with_reducible repeat (first | apply Kd.N_alloc | apply Kd.N_drewN | apply Kd.N_drew)); exact HO164.out)) k_ hk_.2.1))) (below_size (by repeat (first | (with_reducible first | exact HB.out | apply below_alloc | apply pw_below_drewN | apply below_drew1) | exact HB.out)))); have n2_ := Aside0.mk (below_step (by repeat (first | (with_reducible first | exact HB.out | apply below_alloc | apply pw_below_drewN | apply below_drew1) | exact HB.out)) hb); clear HO164; clear HB; have HO164 := n0_; have HO169 := n1_; have HB := n2_; clear n0_ n1_ n2_; (try clear hb); (try clear hb2); (try clear hk); (try clear hi); (try clear ho0); obtain ⟨Ao38, co38, eo38⟩ := Kd.N_slice HO169.out; subst eo38) | ((with_reducible refine gate_callee (f := 26) rfl ?_); refine goesL_ (some 58) rfl rfl Try.func26 (by kernel_rfl) rfl #[.slice Ao38 t167.length co38] rfl (by (try simp only [List.map_toArray, List.map_cons, List.map_nil]); first | done | rfl | (simp only [tb_wrap8]; done) | (simp only [tb_wrap8]; rfl) | (simp only [List.length_drop, List.length_take]; rfl)) ?_; (with_reducible refine (matrix_Rank.calls _ _ t167 t170 t171 _ ?side1 ?side2 A32.out).mono ?_); (case side1 => repeat (first | exact (Kd.N_reads' HO169.out).2.2 | (with_reducible refine Kd.C_alloc ?_ _) | (with_reducible refine Kd.C_drewN ?_ _) | (with_reducible refine Kd.C_drew ?_))); (case side2 => exact (Kd.N_reads' HO169.out).2.1); rintro e w39 ⟨rfl, hb⟩; refine ⟨_, rfl, ?_⟩; have n0_ := Aside0.mk (Kd.N_below (by (with_reducible repeat (first | apply Kd.N_alloc | apply Kd.N_drewN | apply Kd.N_drew)); exact HO164.out) hb); have n1_ := Aside0.mk (Kd.N_below (by (with_reducible repeat (first | apply Kd.N_alloc | apply Kd.N_drewN | apply Kd.N_drew)); exact HO169.out) hb); have n2_ := Aside0.mk (below_step (by repeat (first | (with_reducible first | exact HB.out | apply below_alloc | apply pw_below_drewN | apply below_drew1) | exact HB.out)) hb); clear HO164; clear HO169; clear HB; have HO164 := n0_; have HO169 := n1_; have HB := n2_; clear n0_ n1_ n2_; (try clear hb); (try clear hb2); (try clear hk); (try clear hi)))
                (try simp only [Act.put, List.setIfInBounds_toArray, List.set_cons_zero, List.set_cons_succ])
                go_cut [70] (fun v70 wc => ∃ (kq : Nat) (x70_32 : Bool), v70 = .bool x70_32 ∧ Aside0 (culletlaw10_MatrixInverse.j2 kq l0 l1 t160 t165 x70_32 = some r) ∧ Aside0 (kq ≤ kj22) ∧ Aside0 (Below w.heap.size w wc))
                case first =>
                  have H := HC33.out
                  clear HC33
                  by_cases c40 : t171 = 0
                  · rw [if_pos c40] at H
                    have c40b0 : (t171 == 0) = true := beq_iff_eq.mpr c40
                    have c40b1 : (t171 != 0) = false := bne_eq_false_iff_eq.mpr c40
                    clear c40
                    (first | rw [c40b0] | (simp only [i64_w, i32_w]; rw [c40b0]) | skip)
                    have H' := Aside0.mk H
                    clear H
                    go_wp2
                    go_meet
                    case rel => exact ⟨_, (((t170 == t160) != (t165 != 0))), (by first | rfl | (simp; done) | (simp [*]; done)), H', ⟨by have := HJ3.out; have := HJ22.out; first | omega | exact Nat.le_refl _⟩, ⟨by repeat (first | (with_reducible first | exact HB.out | apply below_alloc | apply pw_below_drewN | apply below_drew1) | exact HB.out)⟩⟩
                  · rw [if_neg c40] at H
                    have c40b0 : (t171 == 0) = false := beq_eq_false_iff_ne.mpr c40
                    have c40b1 : (t171 != 0) = true := bne_iff_ne.mpr c40
                    (first | rw [c40b0] | (simp only [i64_w, i32_w]; rw [c40b0]) | skip)
                    have H' := Aside0.mk H
                    clear H
                    go_wp2
                    go_meet
                    case rel => exact ⟨_, (true), (by first | rfl | (simp; done) | (simp [*]; done)), H', ⟨by have := HJ3.out; have := HJ22.out; first | omega | exact Nat.le_refl _⟩, ⟨by repeat (first | (with_reducible first | exact HB.out | apply below_alloc | apply pw_below_drewN | apply below_drew1) | exact HB.out)⟩⟩
                case rest =>
                  clear HC33
                  try clear c1
                  try clear p1
                  try clear q1
                  try clear hx1
                  try clear qi1
                  try clear c2
                  try clear p2
                  try clear c3
                  try clear c4
                  try clear c8
                  try clear p8
                  try clear c12
                  try clear c12b0
                  try clear c12b1
                  try clear c16
                  try clear p16
                  try clear q16
                  try clear hx16
                  try clear qi16
                  try clear c18
                  try clear c19
                  try clear c20
                  try clear c21
                  try clear c24
                  try clear c24b0
                  try clear c24b1
                  try clear c25
                  try clear c25b0
                  try clear c25b1
                  try clear c26
                  try clear c26b0
                  try clear c26b1
                  try clear c27
                  try clear c30
                  try clear c30b0
                  try clear c30b1
                  try clear c32
                  try clear c40
                  try clear c40b0
                  try clear c40b1
                  try clear hx161_0
                  try clear p1
                  try clear p16
                  try clear p161
                  try clear p2
                  try clear p8
                  try clear q1
                  try clear q16
                  try clear q161
                  obtain ⟨kq, x70_32, rfl, HA, HJ32, HB⟩ := hcut
                  cases kq with
                  | zero => exact absurd HA.out (by simp [culletlaw10_MatrixInverse.j2])
                  | succ kj32 =>
                    have H := HA.out
                    clear HA
                    simp only [culletlaw10_MatrixInverse.j2] at H
                    by_cases c41 : x70_32 = true
                    · subst c41
                      have H1 : (some false) = some r := by rw [if_pos rfl] at H; exact H
                      clear H
                      have H := H1
                      clear H1
                      obtain rfl := Option.some.inj H
                      go_wp2
                      go_ret
                      exact ⟨by first | rfl | (simp [errW_none, errW_some] <;> rfl) | (simp [*, errW_none, errW_some] <;> rfl), by repeat (first | (with_reducible first | exact HB.out | apply below_alloc | apply pw_below_drewN | apply below_drew1) | exact HB.out)⟩
                    · replace c41 := Bool.eq_false_iff.mpr c41
                      subst c41
                      have H1 : ((culletlaw10_twin.f l0).bind fun t172 => ((matrix_Invert.f kj32 t172).bind fun bt175 => (if t165 = 0 then (if bt175.2 = 102 then (some ((bt175.1.length : Int) == 0)) else (some false)) else ((culletlaw10_twin.f l0).bind fun t179 => ((matrix_Mul.f kj32 bt175.1 t179).bind fun bt182 => ((culletlaw10_twin.f l0).bind fun t186 => ((matrix_Mul.f kj32 t186 bt175.1).bind fun bt189 => (if bt175.2 = 0 then (if bt182.2 = 0 then (if bt189.2 = 0 then ((culletlaw10_one.f kj32 bt182.1 t160).bind fun t193 => (if t193 = true then ((culletlaw10_one.f kj32 bt189.1 t160).bind fun t194 => (culletlaw10_MatrixInverse.j3 kj32 l0 l1 t160 (!t194))) else (culletlaw10_MatrixInverse.j3 kj32 l0 l1 t160 true))) else (culletlaw10_MatrixInverse.j3 kj32 l0 l1 t160 true)) else (culletlaw10_MatrixInverse.j3 kj32 l0 l1 t160 true)) else (culletlaw10_MatrixInverse.j3 kj32 l0 l1 t160 true))))))))) = some r := by rw [if_neg (show ¬ (false = true) by decide)] at H; exact H
                      clear H
                      have H := H1
                      clear H1
                      replace H := Option.bind_eq_some_iff.mp H
                      obtain ⟨t172, A420, H⟩ := H
                      replace H : ((matrix_Invert.f kj32 t172).bind fun bt175 => (if t165 = 0 then (if bt175.2 = 102 then (some ((bt175.1.length : Int) == 0)) else (some false)) else ((culletlaw10_twin.f l0).bind fun t179 => ((matrix_Mul.f kj32 bt175.1 t179).bind fun bt182 => ((culletlaw10_twin.f l0).bind fun t186 => ((matrix_Mul.f kj32 t186 bt175.1).bind fun bt189 => (if bt175.2 = 0 then (if bt182.2 = 0 then (if bt189.2 = 0 then ((culletlaw10_one.f kj32 bt182.1 t160).bind fun t193 => (if t193 = true then ((culletlaw10_one.f kj32 bt189.1 t160).bind fun t194 => (culletlaw10_MatrixInverse.j3 kj32 l0 l1 t160 (!t194))) else (culletlaw10_MatrixInverse.j3 kj32 l0 l1 t160 true))) else (culletlaw10_MatrixInverse.j3 kj32 l0 l1 t160 true)) else (culletlaw10_MatrixInverse.j3 kj32 l0 l1 t160 true)) else (culletlaw10_MatrixInverse.j3 kj32 l0 l1 t160 true)))))))) = some r := H
                      have A42 := Aside0.mk A420
                      clear A420
                      replace H := Option.bind_eq_some_iff.mp H
                      obtain ⟨⟨t175, t176⟩, A430, H⟩ := H
                      replace H : (if t165 = 0 then (if t176 = 102 then (some ((t175.length : Int) == 0)) else (some false)) else ((culletlaw10_twin.f l0).bind fun t179 => ((matrix_Mul.f kj32 t175 t179).bind fun bt182 => ((culletlaw10_twin.f l0).bind fun t186 => ((matrix_Mul.f kj32 t186 t175).bind fun bt189 => (if t176 = 0 then (if bt182.2 = 0 then (if bt189.2 = 0 then ((culletlaw10_one.f kj32 bt182.1 t160).bind fun t193 => (if t193 = true then ((culletlaw10_one.f kj32 bt189.1 t160).bind fun t194 => (culletlaw10_MatrixInverse.j3 kj32 l0 l1 t160 (!t194))) else (culletlaw10_MatrixInverse.j3 kj32 l0 l1 t160 true))) else (culletlaw10_MatrixInverse.j3 kj32 l0 l1 t160 true)) else (culletlaw10_MatrixInverse.j3 kj32 l0 l1 t160 true)) else (culletlaw10_MatrixInverse.j3 kj32 l0 l1 t160 true))))))) = some r := H
                      have A43 := Aside0.mk A430
                      clear A430
                      by_cases c44 : t165 = 0
                      · rw [if_pos c44] at H
                        have c44b0 : (t165 == 0) = true := beq_iff_eq.mpr c44
                        have c44b1 : (t165 != 0) = false := bne_eq_false_iff_eq.mpr c44
                        clear c44
                        by_cases c45 : t176 = 102
                        · rw [if_pos c45] at H
                          have c45b0 : (t176 == 102) = true := beq_iff_eq.mpr c45
                          have c45b1 : (t176 != 102) = false := bne_eq_false_iff_eq.mpr c45
                          clear c45
                          obtain rfl := Option.some.inj H
                          go_wp2_with (first | ((with_reducible refine gate_callee (f := 20) rfl ?_); refine goesL_ (some 73) rfl rfl Try.func20 (by kernel_rfl) rfl #[.slice A0 l0.length c0] rfl (by (try simp only [List.map_toArray, List.map_cons, List.map_nil]); first | done | rfl | (simp only [tb_wrap8]; done) | (simp only [tb_wrap8]; rfl) | (simp only [List.length_drop, List.length_take]; rfl)) ?_; (with_reducible refine (culletlaw10_twin.calls _ _ l0 t172 _ ?side1 ?side2 A42.out).mono ?_); (case side1 => repeat (first | exact (Kd.C_below HR0.out HB.out) | (with_reducible refine Kd.C_alloc ?_ _) | (with_reducible refine Kd.C_drewN ?_ _) | (with_reducible refine Kd.C_drew ?_))); (case side2 => exact HC0.out); rintro e w46 ⟨v173, rfl, ho0, hb⟩; refine ⟨_, rfl, ?_⟩; have n0_ := Aside0.mk (Kd.N_lower (Kd.N_mono (ok' := fun k_ => True) (Kd.S_N (Kd.S_bound ho0)) (fun k_ hk_ => trivial)) (below_size (by repeat (first | (with_reducible first | exact HB.out | apply below_alloc | apply pw_below_drewN | apply below_drew1) | exact HB.out)))); have n1_ := Aside0.mk (below_step (by repeat (first | (with_reducible first | exact HB.out | apply below_alloc | apply pw_below_drewN | apply below_drew1) | exact HB.out)) hb); clear HB; have HO174 := n0_; have HB := n1_; clear n0_ n1_; (try clear hb); (try clear hb2); (try clear hk); (try clear hi); (try clear ho0); obtain ⟨Ao47, co47, eo47⟩ := Kd.N_slice HO174.out; subst eo47) | ((with_reducible refine gate_callee (f := 32) rfl ?_); refine goesL_ (some 74) rfl rfl Try.func32 (by kernel_rfl) rfl #[.slice Ao47 t172.length co47] rfl (by (try simp only [List.map_toArray, List.map_cons, List.map_nil]); first | done | rfl | (simp only [tb_wrap8]; done) | (simp only [tb_wrap8]; rfl) | (simp only [List.length_drop, List.length_take]; rfl)) ?_; (with_reducible refine (matrix_Invert.calls kj32 _ _ t172 t175 t176 _ ?side1 ?side2 A43.out).mono ?_); (case side1 => repeat (first | exact (Kd.N_reads' HO174.out).2.2 | (with_reducible refine Kd.C_alloc ?_ _) | (with_reducible refine Kd.C_drewN ?_ _) | (with_reducible refine Kd.C_drew ?_))); (case side2 => exact (Kd.N_reads' HO174.out).2.1); rintro e w48 ⟨v177, rfl, ho0, hb⟩; refine ⟨_, rfl, ?_⟩; have n0_ := Aside0.mk (Kd.N_elder' (by (with_reducible repeat (first | apply Kd.N_alloc | apply Kd.N_drewN | apply Kd.N_drew)); exact HO174.out) (by first | exact Kd.N_base ho0 | exact Kd.S_base ho0) hb); have n1_ := Aside0.mk (Kd.N_lower (Kd.N_mono (ok' := fun k_ => some k_ ≠ (.slice Ao47 t172.length co47 : Value).ownBlock) (Kd.S_N (Kd.S_bound ho0)) (fun k_ hk_ => (Kd.fresh' (Kd.N_lt (by (with_reducible repeat (first | apply Kd.N_alloc | apply Kd.N_drewN | apply Kd.N_drew)); exact HO174.out)) k_ hk_.2.1))) (below_size (by repeat (first | (with_reducible first | exact HB.out | apply below_alloc | apply pw_below_drewN | apply below_drew1) | exact HB.out)))); have n2_ := Aside0.mk (below_step (by repeat (first | (with_reducible first | exact HB.out | apply below_alloc | apply pw_below_drewN | apply below_drew1) | exact HB.out)) hb); clear HO174; clear HB; have HO174 := n0_; have HO178 := n1_; have HB := n2_; clear n0_ n1_ n2_; (try clear hb); (try clear hb2); (try clear hk); (try clear hi); (try clear ho0); obtain ⟨Ao49, co49, eo49⟩ := Kd.N_slice HO178.out; subst eo49))
                          go_ret
                          exact ⟨by first | rfl | (simp [errW_none, errW_some] <;> rfl) | (simp [*, errW_none, errW_some] <;> rfl), by repeat (first | (with_reducible first | exact HB.out | apply below_alloc | apply pw_below_drewN | apply below_drew1) | exact HB.out)⟩
                        · rw [if_neg c45] at H
                          have c45b0 : (t176 == 102) = false := beq_eq_false_iff_ne.mpr c45
                          have c45b1 : (t176 != 102) = true := bne_iff_ne.mpr c45
                          obtain rfl := Option.some.inj H
                          go_wp2_with (first | ((with_reducible refine gate_callee (f := 20) rfl ?_); refine goesL_ (some 73) rfl rfl Try.func20 (by kernel_rfl) rfl #[.slice A0 l0.length c0] rfl (by (try simp only [List.map_toArray, List.map_cons, List.map_nil]); first | done | rfl | (simp only [tb_wrap8]; done) | (simp only [tb_wrap8]; rfl) | (simp only [List.length_drop, List.length_take]; rfl)) ?_; (with_reducible refine (culletlaw10_twin.calls _ _ l0 t172 _ ?side1 ?side2 A42.out).mono ?_); (case side1 => repeat (first | exact (Kd.C_below HR0.out HB.out) | (with_reducible refine Kd.C_alloc ?_ _) | (with_reducible refine Kd.C_drewN ?_ _) | (with_reducible refine Kd.C_drew ?_))); (case side2 => exact HC0.out); rintro e w50 ⟨v173, rfl, ho0, hb⟩; refine ⟨_, rfl, ?_⟩; have n0_ := Aside0.mk (Kd.N_lower (Kd.N_mono (ok' := fun k_ => True) (Kd.S_N (Kd.S_bound ho0)) (fun k_ hk_ => trivial)) (below_size (by repeat (first | (with_reducible first | exact HB.out | apply below_alloc | apply pw_below_drewN | apply below_drew1) | exact HB.out)))); have n1_ := Aside0.mk (below_step (by repeat (first | (with_reducible first | exact HB.out | apply below_alloc | apply pw_below_drewN | apply below_drew1) | exact HB.out)) hb); clear HB; have HO174 := n0_; have HB := n1_; clear n0_ n1_; (try clear hb); (try clear hb2); (try clear hk); (try clear hi); (try clear ho0); obtain ⟨Ao51, co51, eo51⟩ := Kd.N_slice HO174.out; subst eo51) | ((with_reducible refine gate_callee (f := 32) rfl ?_); refine goesL_ (some 74) rfl rfl Try.func32 (by kernel_rfl) rfl #[.slice Ao51 t172.length co51] rfl (by (try simp only [List.map_toArray, List.map_cons, List.map_nil]); first | done | rfl | (simp only [tb_wrap8]; done) | (simp only [tb_wrap8]; rfl) | (simp only [List.length_drop, List.length_take]; rfl)) ?_; (with_reducible refine (matrix_Invert.calls kj32 _ _ t172 t175 t176 _ ?side1 ?side2 A43.out).mono ?_); (case side1 => repeat (first | exact (Kd.N_reads' HO174.out).2.2 | (with_reducible refine Kd.C_alloc ?_ _) | (with_reducible refine Kd.C_drewN ?_ _) | (with_reducible refine Kd.C_drew ?_))); (case side2 => exact (Kd.N_reads' HO174.out).2.1); rintro e w52 ⟨v177, rfl, ho0, hb⟩; refine ⟨_, rfl, ?_⟩; have n0_ := Aside0.mk (Kd.N_elder' (by (with_reducible repeat (first | apply Kd.N_alloc | apply Kd.N_drewN | apply Kd.N_drew)); exact HO174.out) (by first | exact Kd.N_base ho0 | exact Kd.S_base ho0) hb); have n1_ := Aside0.mk (Kd.N_lower (Kd.N_mono (ok' := fun k_ => some k_ ≠ (.slice Ao51 t172.length co51 : Value).ownBlock) (Kd.S_N (Kd.S_bound ho0)) (fun k_ hk_ => (Kd.fresh' (Kd.N_lt (by (with_reducible repeat (first | apply Kd.N_alloc | apply Kd.N_drewN | apply Kd.N_drew)); exact HO174.out)) k_ hk_.2.1))) (below_size (by repeat (first | (with_reducible first | exact HB.out | apply below_alloc | apply pw_below_drewN | apply below_drew1) | exact HB.out)))); have n2_ := Aside0.mk (below_step (by repeat (first | (with_reducible first | exact HB.out | apply below_alloc | apply pw_below_drewN | apply below_drew1) | exact HB.out)) hb); clear HO174; clear HB; have HO174 := n0_; have HO178 := n1_; have HB := n2_; clear n0_ n1_ n2_; (try clear hb); (try clear hb2); (try clear hk); (try clear hi); (try clear ho0)))
                          go_ret
                          exact ⟨by first | rfl | (simp [errW_none, errW_some] <;> rfl) | (simp [*, errW_none, errW_some] <;> rfl), by repeat (first | (with_reducible first | exact HB.out | apply below_alloc | apply pw_below_drewN | apply below_drew1) | exact HB.out)⟩
                      · rw [if_neg c44] at H
                        have c44b0 : (t165 == 0) = false := beq_eq_false_iff_ne.mpr c44
                        have c44b1 : (t165 != 0) = true := bne_iff_ne.mpr c44
                        replace H := Option.bind_eq_some_iff.mp H
                        obtain ⟨t179, A530, H⟩ := H
                        replace H : ((matrix_Mul.f kj32 t175 t179).bind fun bt182 => ((culletlaw10_twin.f l0).bind fun t186 => ((matrix_Mul.f kj32 t186 t175).bind fun bt189 => (if t176 = 0 then (if bt182.2 = 0 then (if bt189.2 = 0 then ((culletlaw10_one.f kj32 bt182.1 t160).bind fun t193 => (if t193 = true then ((culletlaw10_one.f kj32 bt189.1 t160).bind fun t194 => (culletlaw10_MatrixInverse.j3 kj32 l0 l1 t160 (!t194))) else (culletlaw10_MatrixInverse.j3 kj32 l0 l1 t160 true))) else (culletlaw10_MatrixInverse.j3 kj32 l0 l1 t160 true)) else (culletlaw10_MatrixInverse.j3 kj32 l0 l1 t160 true)) else (culletlaw10_MatrixInverse.j3 kj32 l0 l1 t160 true))))) = some r := H
                        have A53 := Aside0.mk A530
                        clear A530
                        replace H := Option.bind_eq_some_iff.mp H
                        obtain ⟨⟨t182, t183⟩, A540, H⟩ := H
                        replace H : ((culletlaw10_twin.f l0).bind fun t186 => ((matrix_Mul.f kj32 t186 t175).bind fun bt189 => (if t176 = 0 then (if t183 = 0 then (if bt189.2 = 0 then ((culletlaw10_one.f kj32 t182 t160).bind fun t193 => (if t193 = true then ((culletlaw10_one.f kj32 bt189.1 t160).bind fun t194 => (culletlaw10_MatrixInverse.j3 kj32 l0 l1 t160 (!t194))) else (culletlaw10_MatrixInverse.j3 kj32 l0 l1 t160 true))) else (culletlaw10_MatrixInverse.j3 kj32 l0 l1 t160 true)) else (culletlaw10_MatrixInverse.j3 kj32 l0 l1 t160 true)) else (culletlaw10_MatrixInverse.j3 kj32 l0 l1 t160 true)))) = some r := H
                        have A54 := Aside0.mk A540
                        clear A540
                        replace H := Option.bind_eq_some_iff.mp H
                        obtain ⟨t186, A550, H⟩ := H
                        replace H : ((matrix_Mul.f kj32 t186 t175).bind fun bt189 => (if t176 = 0 then (if t183 = 0 then (if bt189.2 = 0 then ((culletlaw10_one.f kj32 t182 t160).bind fun t193 => (if t193 = true then ((culletlaw10_one.f kj32 bt189.1 t160).bind fun t194 => (culletlaw10_MatrixInverse.j3 kj32 l0 l1 t160 (!t194))) else (culletlaw10_MatrixInverse.j3 kj32 l0 l1 t160 true))) else (culletlaw10_MatrixInverse.j3 kj32 l0 l1 t160 true)) else (culletlaw10_MatrixInverse.j3 kj32 l0 l1 t160 true)) else (culletlaw10_MatrixInverse.j3 kj32 l0 l1 t160 true))) = some r := H
                        have A55 := Aside0.mk A550
                        clear A550
                        replace H := Option.bind_eq_some_iff.mp H
                        obtain ⟨⟨t189, t190⟩, A560, H⟩ := H
                        replace H : (if t176 = 0 then (if t183 = 0 then (if t190 = 0 then ((culletlaw10_one.f kj32 t182 t160).bind fun t193 => (if t193 = true then ((culletlaw10_one.f kj32 t189 t160).bind fun t194 => (culletlaw10_MatrixInverse.j3 kj32 l0 l1 t160 (!t194))) else (culletlaw10_MatrixInverse.j3 kj32 l0 l1 t160 true))) else (culletlaw10_MatrixInverse.j3 kj32 l0 l1 t160 true)) else (culletlaw10_MatrixInverse.j3 kj32 l0 l1 t160 true)) else (culletlaw10_MatrixInverse.j3 kj32 l0 l1 t160 true)) = some r := H
                        have A56 := Aside0.mk A560
                        clear A560
                        have HC57 := Aside0.mk H
                        clear H
                        go_upto_region 18 with (first | ((with_reducible refine gate_callee (f := 20) rfl ?_); refine goesL_ (some 73) rfl rfl Try.func20 (by kernel_rfl) rfl #[.slice A0 l0.length c0] rfl (by (try simp only [List.map_toArray, List.map_cons, List.map_nil]); first | done | rfl | (simp only [tb_wrap8]; done) | (simp only [tb_wrap8]; rfl) | (simp only [List.length_drop, List.length_take]; rfl)) ?_; (with_reducible refine (culletlaw10_twin.calls _ _ l0 t172 _ ?side1 ?side2 A42.out).mono ?_); (case side1 => repeat (first | exact (Kd.C_below HR0.out HB.out) | (with_reducible refine Kd.C_alloc ?_ _) | (with_reducible refine Kd.C_drewN ?_ _) | (with_reducible refine Kd.C_drew ?_))); (case side2 => exact HC0.out); rintro e w58 ⟨v173, rfl, ho0, hb⟩; refine ⟨_, rfl, ?_⟩; have n0_ := Aside0.mk (Kd.N_lower (Kd.N_mono (ok' := fun k_ => True) (Kd.S_N (Kd.S_bound ho0)) (fun k_ hk_ => trivial)) (below_size (by repeat (first | (with_reducible first | exact HB.out | apply below_alloc | apply pw_below_drewN | apply below_drew1) | exact HB.out)))); have n1_ := Aside0.mk (below_step (by repeat (first | (with_reducible first | exact HB.out | apply below_alloc | apply pw_below_drewN | apply below_drew1) | exact HB.out)) hb); clear HB; have HO174 := n0_; have HB := n1_; clear n0_ n1_; (try clear hb); (try clear hb2); (try clear hk); (try clear hi); (try clear ho0); obtain ⟨Ao59, co59, eo59⟩ := Kd.N_slice HO174.out; subst eo59) | ((with_reducible refine gate_callee (f := 32) rfl ?_); refine goesL_ (some 74) rfl rfl Try.func32 (by kernel_rfl) rfl #[.slice Ao59 t172.length co59] rfl (by (try simp only [List.map_toArray, List.map_cons, List.map_nil]); first | done | rfl | (simp only [tb_wrap8]; done) | (simp only [tb_wrap8]; rfl) | (simp only [List.length_drop, List.length_take]; rfl)) ?_; (with_reducible refine (matrix_Invert.calls kj32 _ _ t172 t175 t176 _ ?side1 ?side2 A43.out).mono ?_); (case side1 => repeat (first | exact (Kd.N_reads' HO174.out).2.2 | (with_reducible refine Kd.C_alloc ?_ _) | (with_reducible refine Kd.C_drewN ?_ _) | (with_reducible refine Kd.C_drew ?_))); (case side2 => exact (Kd.N_reads' HO174.out).2.1); rintro e w60 ⟨v177, rfl, ho0, hb⟩; refine ⟨_, rfl, ?_⟩; have n0_ := Aside0.mk (Kd.N_elder' (by (with_reducible repeat (first | apply Kd.N_alloc | apply Kd.N_drewN | apply Kd.N_drew)); exact HO174.out) (by first | exact Kd.N_base ho0 | exact Kd.S_base ho0) hb); have n1_ := Aside0.mk (Kd.N_lower (Kd.N_mono (ok' := fun k_ => some k_ ≠ (.slice Ao59 t172.length co59 : Value).ownBlock) (Kd.S_N (Kd.S_bound ho0)) (fun k_ hk_ => (Kd.fresh' (Kd.N_lt (by (with_reducible repeat (first | apply Kd.N_alloc | apply Kd.N_drewN | apply Kd.N_drew)); exact HO174.out)) k_ hk_.2.1))) (below_size (by repeat (first | (with_reducible first | exact HB.out | apply below_alloc | apply pw_below_drewN | apply below_drew1) | exact HB.out)))); have n2_ := Aside0.mk (below_step (by repeat (first | (with_reducible first | exact HB.out | apply below_alloc | apply pw_below_drewN | apply below_drew1) | exact HB.out)) hb); clear HO174; clear HB; have HO174 := n0_; have HO178 := n1_; have HB := n2_; clear n0_ n1_ n2_; (try clear hb); (try clear hb2); (try clear hk); (try clear hi); (try clear ho0)) | ((with_reducible refine gate_callee (f := 20) rfl ?_); refine goesL_ (some 89) rfl rfl Try.func20 (by kernel_rfl) rfl #[.slice A0 l0.length c0] rfl (by (try simp only [List.map_toArray, List.map_cons, List.map_nil]); first | done | rfl | (simp only [tb_wrap8]; done) | (simp only [tb_wrap8]; rfl) | (simp only [List.length_drop, List.length_take]; rfl)) ?_; (with_reducible refine (culletlaw10_twin.calls _ _ l0 t179 _ ?side1 ?side2 A53.out).mono ?_); (case side1 => repeat (first | exact (Kd.C_below HR0.out HB.out) | (with_reducible refine Kd.C_alloc ?_ _) | (with_reducible refine Kd.C_drewN ?_ _) | (with_reducible refine Kd.C_drew ?_))); (case side2 => exact HC0.out); rintro e w61 ⟨v180, rfl, ho0, hb⟩; refine ⟨_, rfl, ?_⟩; have n0_ := Aside0.mk (Kd.N_elder' (by (with_reducible repeat (first | apply Kd.N_alloc | apply Kd.N_drewN | apply Kd.N_drew)); exact HO174.out) (by first | exact Kd.N_base ho0 | exact Kd.S_base ho0) hb); have n1_ := Aside0.mk (Kd.N_elder' (by (with_reducible repeat (first | apply Kd.N_alloc | apply Kd.N_drewN | apply Kd.N_drew)); exact HO178.out) (by first | exact Kd.N_base ho0 | exact Kd.S_base ho0) hb); have n2_ := Aside0.mk (Kd.N_lower (Kd.N_mono (ok' := fun k_ => some k_ ≠ (.slice Ao59 t172.length co59 : Value).ownBlock ∧ some k_ ≠ (v177 : Value).ownBlock) (Kd.S_N (Kd.S_bound ho0)) (fun k_ hk_ => ⟨(Kd.fresh' (Kd.N_lt (by (with_reducible repeat (first | apply Kd.N_alloc | apply Kd.N_drewN | apply Kd.N_drew)); exact HO174.out)) k_ hk_.2.1), (Kd.fresh' (Kd.N_lt (by (with_reducible repeat (first | apply Kd.N_alloc | apply Kd.N_drewN | apply Kd.N_drew)); exact HO178.out)) k_ hk_.2.1)⟩)) (below_size (by repeat (first | (with_reducible first | exact HB.out | apply below_alloc | apply pw_below_drewN | apply below_drew1) | exact HB.out)))); have n3_ := Aside0.mk (below_step (by repeat (first | (with_reducible first | exact HB.out | apply below_alloc | apply pw_below_drewN | apply below_drew1) | exact HB.out)) hb); clear HO174; clear HO178; clear HB; have HO174 := n0_; have HO178 := n1_; have HO181 := n2_; have HB := n3_; clear n0_ n1_ n2_ n3_; (try clear hb); (try clear hb2); (try clear hk); (try clear hi); (try clear ho0); obtain ⟨Ao62, co62, eo62⟩ := Kd.N_slice HO178.out; subst eo62; obtain ⟨Ao63, co63, eo63⟩ := Kd.N_slice HO181.out; subst eo63) | ((with_reducible refine gate_callee (f := 22) rfl ?_); refine goesL_ (some 90) rfl rfl Try.func22 (by kernel_rfl) rfl #[.slice Ao62 t175.length co62, .slice Ao63 t179.length co63] rfl (by (try simp only [List.map_toArray, List.map_cons, List.map_nil]); first | done | rfl | (simp only [tb_wrap8]; done) | (simp only [tb_wrap8]; rfl) | (simp only [List.length_drop, List.length_take]; rfl)) ?_; (with_reducible refine (matrix_Mul.calls kj32 _ _ t175 _ _ t179 t182 t183 _ ?side1 ?side2 ?side3 ?side4 A54.out).mono ?_); (case side1 => repeat (first | exact (Kd.N_reads' HO178.out).2.2 | (with_reducible refine Kd.C_alloc ?_ _) | (with_reducible refine Kd.C_drewN ?_ _) | (with_reducible refine Kd.C_drew ?_))); (case side2 => exact (Kd.N_reads' HO178.out).2.1); (case side3 => repeat (first | exact (Kd.N_reads' HO181.out).2.2 | (with_reducible refine Kd.C_alloc ?_ _) | (with_reducible refine Kd.C_drewN ?_ _) | (with_reducible refine Kd.C_drew ?_))); (case side4 => exact (Kd.N_reads' HO181.out).2.1); rintro e w64 ⟨v184, rfl, ho0, hb⟩; refine ⟨_, rfl, ?_⟩; have n0_ := Aside0.mk (Kd.N_elder' (by (with_reducible repeat (first | apply Kd.N_alloc | apply Kd.N_drewN | apply Kd.N_drew)); exact HO174.out) (by first | exact Kd.N_base ho0 | exact Kd.S_base ho0) hb); have n1_ := Aside0.mk (Kd.N_elder' (by (with_reducible repeat (first | apply Kd.N_alloc | apply Kd.N_drewN | apply Kd.N_drew)); exact HO178.out) (by first | exact Kd.N_base ho0 | exact Kd.S_base ho0) hb); have n2_ := Aside0.mk (Kd.N_elder' (by (with_reducible repeat (first | apply Kd.N_alloc | apply Kd.N_drewN | apply Kd.N_drew)); exact HO181.out) (by first | exact Kd.N_base ho0 | exact Kd.S_base ho0) hb); have n3_ := Aside0.mk (Kd.N_lower (Kd.N_mono (ok' := fun k_ => some k_ ≠ (.slice Ao59 t172.length co59 : Value).ownBlock ∧ some k_ ≠ (.slice Ao62 t175.length co62 : Value).ownBlock ∧ some k_ ≠ (.slice Ao63 t179.length co63 : Value).ownBlock) (Kd.S_N (Kd.S_bound ho0)) (fun k_ hk_ => ⟨(Kd.fresh' (Kd.N_lt (by (with_reducible repeat (first | apply Kd.N_alloc | apply Kd.N_drewN | apply Kd.N_drew)); exact HO174.out)) k_ hk_.2.1), (Kd.fresh' (Kd.N_lt (by (with_reducible repeat (first | apply Kd.N_alloc | apply Kd.N_drewN | apply Kd.N_drew)); exact HO178.out)) k_ hk_.2.1), (Kd.fresh' (Kd.N_lt (by (with_reducible repeat (first | apply Kd.N_alloc | apply Kd.N_drewN | apply Kd.N_drew)); exact HO181.out)) k_ hk_.2.1)⟩)) (below_size (by repeat (first | (with_reducible first | exact HB.out | apply below_alloc | apply pw_below_drewN | apply below_drew1) | exact HB.out)))); have n4_ := Aside0.mk (below_step (by repeat (first | (with_reducible first | exact HB.out | apply below_alloc | apply pw_below_drewN | apply below_drew1) | exact HB.out)) hb); clear HO174; clear HO178; clear HO181; clear HB; have HO174 := n0_; have HO178 := n1_; have HO181 := n2_; have HO185 := n3_; have HB := n4_; clear n0_ n1_ n2_ n3_ n4_; (try clear hb); (try clear hb2); (try clear hk); (try clear hi); (try clear ho0)) | ((with_reducible refine gate_callee (f := 20) rfl ?_); refine goesL_ (some 95) rfl rfl Try.func20 (by kernel_rfl) rfl #[.slice A0 l0.length c0] rfl (by (try simp only [List.map_toArray, List.map_cons, List.map_nil]); first | done | rfl | (simp only [tb_wrap8]; done) | (simp only [tb_wrap8]; rfl) | (simp only [List.length_drop, List.length_take]; rfl)) ?_; (with_reducible refine (culletlaw10_twin.calls _ _ l0 t186 _ ?side1 ?side2 A55.out).mono ?_); (case side1 => repeat (first | exact (Kd.C_below HR0.out HB.out) | (with_reducible refine Kd.C_alloc ?_ _) | (with_reducible refine Kd.C_drewN ?_ _) | (with_reducible refine Kd.C_drew ?_))); (case side2 => exact HC0.out); rintro e w65 ⟨v187, rfl, ho0, hb⟩; refine ⟨_, rfl, ?_⟩; have n0_ := Aside0.mk (Kd.N_elder' (by (with_reducible repeat (first | apply Kd.N_alloc | apply Kd.N_drewN | apply Kd.N_drew)); exact HO174.out) (by first | exact Kd.N_base ho0 | exact Kd.S_base ho0) hb); have n1_ := Aside0.mk (Kd.N_elder' (by (with_reducible repeat (first | apply Kd.N_alloc | apply Kd.N_drewN | apply Kd.N_drew)); exact HO178.out) (by first | exact Kd.N_base ho0 | exact Kd.S_base ho0) hb); have n2_ := Aside0.mk (Kd.N_elder' (by (with_reducible repeat (first | apply Kd.N_alloc | apply Kd.N_drewN | apply Kd.N_drew)); exact HO181.out) (by first | exact Kd.N_base ho0 | exact Kd.S_base ho0) hb); have n3_ := Aside0.mk (Kd.N_elder' (by (with_reducible repeat (first | apply Kd.N_alloc | apply Kd.N_drewN | apply Kd.N_drew)); exact HO185.out) (by first | exact Kd.N_base ho0 | exact Kd.S_base ho0) hb); have n4_ := Aside0.mk (Kd.N_lower (Kd.N_mono (ok' := fun k_ => some k_ ≠ (.slice Ao59 t172.length co59 : Value).ownBlock ∧ some k_ ≠ (.slice Ao62 t175.length co62 : Value).ownBlock ∧ some k_ ≠ (.slice Ao63 t179.length co63 : Value).ownBlock ∧ some k_ ≠ (v184 : Value).ownBlock) (Kd.S_N (Kd.S_bound ho0)) (fun k_ hk_ => ⟨(Kd.fresh' (Kd.N_lt (by (with_reducible repeat (first | apply Kd.N_alloc | apply Kd.N_drewN | apply Kd.N_drew)); exact HO174.out)) k_ hk_.2.1), (Kd.fresh' (Kd.N_lt (by (with_reducible repeat (first | apply Kd.N_alloc | apply Kd.N_drewN | apply Kd.N_drew)); exact HO178.out)) k_ hk_.2.1), (Kd.fresh' (Kd.N_lt (by (with_reducible repeat (first | apply Kd.N_alloc | apply Kd.N_drewN | apply Kd.N_drew)); exact HO181.out)) k_ hk_.2.1), (Kd.fresh' (Kd.N_lt (by (with_reducible repeat (first | apply Kd.N_alloc | apply Kd.N_drewN | apply Kd.N_drew)); exact HO185.out)) k_ hk_.2.1)⟩)) (below_size (by repeat (first | (with_reducible first | exact HB.out | apply below_alloc | apply pw_below_drewN | apply below_drew1) | exact HB.out)))); have n5_ := Aside0.mk (below_step (by repeat (first | (with_reducible first | exact HB.out | apply below_alloc | apply pw_below_drewN | apply below_drew1) | exact HB.out)) hb); clear HO174; clear HO178; clear HO181; clear HO185; clear HB; have HO174 := n0_; have HO178 := n1_; have HO181 := n2_; have HO185 := n3_; have HO188 := n4_; have HB := n5_; clear n0_ n1_ n2_ n3_ n4_ n5_; (try clear hb); (try clear hb2); (try clear hk); (try clear hi); (try clear ho0); obtain ⟨Ao66, co66, eo66⟩ := Kd.N_slice HO188.out; subst eo66) | ((with_reducible refine gate_callee (f := 22) rfl ?_); refine goesL_ (some 97) rfl rfl Try.func22 (by kernel_rfl) rfl #[.slice Ao66 t186.length co66, .slice Ao62 t175.length co62] rfl (by (try simp only [List.map_toArray, List.map_cons, List.map_nil]); first | done | rfl | (simp only [tb_wrap8]; done) | (simp only [tb_wrap8]; rfl) | (simp only [List.length_drop, List.length_take]; rfl)) ?_; (with_reducible refine (matrix_Mul.calls kj32 _ _ t186 _ _ t175 t189 t190 _ ?side1 ?side2 ?side3 ?side4 A56.out).mono ?_); (case side1 => repeat (first | exact (Kd.N_reads' HO188.out).2.2 | (with_reducible refine Kd.C_alloc ?_ _) | (with_reducible refine Kd.C_drewN ?_ _) | (with_reducible refine Kd.C_drew ?_))); (case side2 => exact (Kd.N_reads' HO188.out).2.1); (case side3 => repeat (first | exact (Kd.N_reads' HO178.out).2.2 | (with_reducible refine Kd.C_alloc ?_ _) | (with_reducible refine Kd.C_drewN ?_ _) | (with_reducible refine Kd.C_drew ?_))); (case side4 => exact (Kd.N_reads' HO178.out).2.1); rintro e w67 ⟨v191, rfl, ho0, hb⟩; refine ⟨_, rfl, ?_⟩; have n0_ := Aside0.mk (Kd.N_elder' (by (with_reducible repeat (first | apply Kd.N_alloc | apply Kd.N_drewN | apply Kd.N_drew)); exact HO174.out) (by first | exact Kd.N_base ho0 | exact Kd.S_base ho0) hb); have n1_ := Aside0.mk (Kd.N_elder' (by (with_reducible repeat (first | apply Kd.N_alloc | apply Kd.N_drewN | apply Kd.N_drew)); exact HO178.out) (by first | exact Kd.N_base ho0 | exact Kd.S_base ho0) hb); have n2_ := Aside0.mk (Kd.N_elder' (by (with_reducible repeat (first | apply Kd.N_alloc | apply Kd.N_drewN | apply Kd.N_drew)); exact HO181.out) (by first | exact Kd.N_base ho0 | exact Kd.S_base ho0) hb); have n3_ := Aside0.mk (Kd.N_elder' (by (with_reducible repeat (first | apply Kd.N_alloc | apply Kd.N_drewN | apply Kd.N_drew)); exact HO185.out) (by first | exact Kd.N_base ho0 | exact Kd.S_base ho0) hb); have n4_ := Aside0.mk (Kd.N_elder' (by (with_reducible repeat (first | apply Kd.N_alloc | apply Kd.N_drewN | apply Kd.N_drew)); exact HO188.out) (by first | exact Kd.N_base ho0 | exact Kd.S_base ho0) hb); have n5_ := Aside0.mk (Kd.N_lower (Kd.N_mono (ok' := fun k_ => some k_ ≠ (.slice Ao59 t172.length co59 : Value).ownBlock ∧ some k_ ≠ (.slice Ao62 t175.length co62 : Value).ownBlock ∧ some k_ ≠ (.slice Ao63 t179.length co63 : Value).ownBlock ∧ some k_ ≠ (v184 : Value).ownBlock ∧ some k_ ≠ (.slice Ao66 t186.length co66 : Value).ownBlock) (Kd.S_N (Kd.S_bound ho0)) (fun k_ hk_ => ⟨(Kd.fresh' (Kd.N_lt (by (with_reducible repeat (first | apply Kd.N_alloc | apply Kd.N_drewN | apply Kd.N_drew)); exact HO174.out)) k_ hk_.2.1), (Kd.fresh' (Kd.N_lt (by (with_reducible repeat (first | apply Kd.N_alloc | apply Kd.N_drewN | apply Kd.N_drew)); exact HO178.out)) k_ hk_.2.1), (Kd.fresh' (Kd.N_lt (by (with_reducible repeat (first | apply Kd.N_alloc | apply Kd.N_drewN | apply Kd.N_drew)); exact HO181.out)) k_ hk_.2.1), (Kd.fresh' (Kd.N_lt (by (with_reducible repeat (first | apply Kd.N_alloc | apply Kd.N_drewN | apply Kd.N_drew)); exact HO185.out)) k_ hk_.2.1), (Kd.fresh' (Kd.N_lt (by (with_reducible repeat (first | apply Kd.N_alloc | apply Kd.N_drewN | apply Kd.N_drew)); exact HO188.out)) k_ hk_.2.1)⟩)) (below_size (by repeat (first | (with_reducible first | exact HB.out | apply below_alloc | apply pw_below_drewN | apply below_drew1) | exact HB.out)))); have n6_ := Aside0.mk (below_step (by repeat (first | (with_reducible first | exact HB.out | apply below_alloc | apply pw_below_drewN | apply below_drew1) | exact HB.out)) hb); clear HO174; clear HO178; clear HO181; clear HO185; clear HO188; clear HB; have HO174 := n0_; have HO178 := n1_; have HO181 := n2_; have HO185 := n3_; have HO188 := n4_; have HO192 := n5_; have HB := n6_; clear n0_ n1_ n2_ n3_ n4_ n5_ n6_; (try clear hb); (try clear hb2); (try clear hk); (try clear hi); (try clear ho0)))
                        (try simp only [Act.put, List.setIfInBounds_toArray, List.set_cons_zero, List.set_cons_succ])
                        go_cut [121] (fun v121 wc => ∃ (kq : Nat) (x121_56 : Bool), v121 = .bool x121_56 ∧ Aside0 (culletlaw10_MatrixInverse.j3 kq l0 l1 t160 x121_56 = some r) ∧ Aside0 (kq ≤ kj32) ∧ Aside0 (Below w.heap.size w wc))
                        case first =>
                          have H := HC57.out
                          clear HC57
                          by_cases c68 : t176 = 0
                          · rw [if_pos c68] at H
                            have c68b0 : (t176 == 0) = true := beq_iff_eq.mpr c68
                            have c68b1 : (t176 != 0) = false := bne_eq_false_iff_eq.mpr c68
                            clear c68
                            (first | rw [c68b0] | (simp only [i64_w, i32_w]; rw [c68b0]) | skip)
                            by_cases c69 : t183 = 0
                            · rw [if_pos c69] at H
                              have c69b0 : (t183 == 0) = true := beq_iff_eq.mpr c69
                              have c69b1 : (t183 != 0) = false := bne_eq_false_iff_eq.mpr c69
                              clear c69
                              by_cases c70 : t190 = 0
                              · rw [if_pos c70] at H
                                have c70b0 : (t190 == 0) = true := beq_iff_eq.mpr c70
                                have c70b1 : (t190 != 0) = false := bne_eq_false_iff_eq.mpr c70
                                clear c70
                                replace H := Option.bind_eq_some_iff.mp H
                                obtain ⟨t193, A710, H⟩ := H
                                replace H : (if t193 = true then ((culletlaw10_one.f kj32 t189 t160).bind fun t194 => (culletlaw10_MatrixInverse.j3 kj32 l0 l1 t160 (!t194))) else (culletlaw10_MatrixInverse.j3 kj32 l0 l1 t160 true)) = some r := H
                                have A71 := Aside0.mk A710
                                clear A710
                                by_cases c72 : t193 = true
                                · subst c72
                                  have H1 : ((culletlaw10_one.f kj32 t189 t160).bind fun t194 => (culletlaw10_MatrixInverse.j3 kj32 l0 l1 t160 (!t194))) = some r := by rw [if_pos rfl] at H; exact H
                                  clear H
                                  have H := H1
                                  clear H1
                                  replace H := Option.bind_eq_some_iff.mp H
                                  obtain ⟨t194, A730, H⟩ := H
                                  replace H : (culletlaw10_MatrixInverse.j3 kj32 l0 l1 t160 (!t194)) = some r := H
                                  have A73 := Aside0.mk A730
                                  clear A730
                                  have H' := Aside0.mk H
                                  clear H
                                  obtain ⟨Ao74, co74, eo74⟩ := Kd.N_slice HO185.out
                                  subst eo74
                                  go_wp2_with (first | (go_at_call 33; (with_reducible refine (culletlaw10_one.calls kj32 _ _ t182 t160 true _ ?side1 ?side2 A71.out).mono ?_); (case side1 => repeat (first | exact (Kd.N_reads' HO185.out).2.2 | (with_reducible refine Kd.C_alloc ?_ _) | (with_reducible refine Kd.C_drewN ?_ _) | (with_reducible refine Kd.C_drew ?_))); (case side2 => exact (Kd.N_reads' HO185.out).2.1); rintro e w' ⟨rfl, ⟨nd, rfl⟩⟩; obtain ⟨Ao75, co75, eo75⟩ := Kd.N_slice HO192.out; subst eo75) | (go_at_call 33; (with_reducible refine (culletlaw10_one.calls kj32 _ _ t189 t160 t194 _ ?side1 ?side2 A73.out).mono ?_); (case side1 => repeat (first | exact (Kd.N_reads' HO192.out).2.2 | (with_reducible refine Kd.C_alloc ?_ _) | (with_reducible refine Kd.C_drewN ?_ _) | (with_reducible refine Kd.C_drew ?_))); (case side2 => exact (Kd.N_reads' HO192.out).2.1); rintro e w' ⟨rfl, ⟨nd, rfl⟩⟩))
                                  go_meet
                                  case rel => exact ⟨_, (!t194), (by first | rfl | (simp; done) | (simp [*]; done)), H', ⟨by have := HJ3.out; have := HJ22.out; have := HJ32.out; first | omega | exact Nat.le_refl _⟩, ⟨by repeat (first | (with_reducible first | exact HB.out | apply below_alloc | apply pw_below_drewN | apply below_drew1) | exact HB.out)⟩⟩
                                · replace c72 := Bool.eq_false_iff.mpr c72
                                  subst c72
                                  have H1 : (culletlaw10_MatrixInverse.j3 kj32 l0 l1 t160 true) = some r := by rw [if_neg (show ¬ (false = true) by decide)] at H; exact H
                                  clear H
                                  have H := H1
                                  clear H1
                                  have H' := Aside0.mk H
                                  clear H
                                  obtain ⟨Ao76, co76, eo76⟩ := Kd.N_slice HO185.out
                                  subst eo76
                                  go_wp2_with (first | (go_at_call 33; (with_reducible refine (culletlaw10_one.calls kj32 _ _ t182 t160 false _ ?side1 ?side2 A71.out).mono ?_); (case side1 => repeat (first | exact (Kd.N_reads' HO185.out).2.2 | (with_reducible refine Kd.C_alloc ?_ _) | (with_reducible refine Kd.C_drewN ?_ _) | (with_reducible refine Kd.C_drew ?_))); (case side2 => exact (Kd.N_reads' HO185.out).2.1); rintro e w' ⟨rfl, ⟨nd, rfl⟩⟩))
                                  go_meet
                                  case rel => exact ⟨_, (true), (by first | rfl | (simp; done) | (simp [*]; done)), H', ⟨by have := HJ3.out; have := HJ22.out; have := HJ32.out; first | omega | exact Nat.le_refl _⟩, ⟨by repeat (first | (with_reducible first | exact HB.out | apply below_alloc | apply pw_below_drewN | apply below_drew1) | exact HB.out)⟩⟩
                              · rw [if_neg c70] at H
                                have c70b0 : (t190 == 0) = false := beq_eq_false_iff_ne.mpr c70
                                have c70b1 : (t190 != 0) = true := bne_iff_ne.mpr c70
                                have H' := Aside0.mk H
                                clear H
                                go_wp2
                                go_meet
                                case rel => exact ⟨_, (true), (by first | rfl | (simp; done) | (simp [*]; done)), H', ⟨by have := HJ3.out; have := HJ22.out; have := HJ32.out; first | omega | exact Nat.le_refl _⟩, ⟨by repeat (first | (with_reducible first | exact HB.out | apply below_alloc | apply pw_below_drewN | apply below_drew1) | exact HB.out)⟩⟩
                            · rw [if_neg c69] at H
                              have c69b0 : (t183 == 0) = false := beq_eq_false_iff_ne.mpr c69
                              have c69b1 : (t183 != 0) = true := bne_iff_ne.mpr c69
                              have H' := Aside0.mk H
                              clear H
                              go_wp2
                              go_meet
                              case rel => exact ⟨_, (true), (by first | rfl | (simp; done) | (simp [*]; done)), H', ⟨by have := HJ3.out; have := HJ22.out; have := HJ32.out; first | omega | exact Nat.le_refl _⟩, ⟨by repeat (first | (with_reducible first | exact HB.out | apply below_alloc | apply pw_below_drewN | apply below_drew1) | exact HB.out)⟩⟩
                          · rw [if_neg c68] at H
                            have c68b0 : (t176 == 0) = false := beq_eq_false_iff_ne.mpr c68
                            have c68b1 : (t176 != 0) = true := bne_iff_ne.mpr c68
                            (first | rw [c68b0] | (simp only [i64_w, i32_w]; rw [c68b0]) | skip)
                            have H' := Aside0.mk H
                            clear H
                            go_wp2
                            go_meet
                            case rel => exact ⟨_, (true), (by first | rfl | (simp; done) | (simp [*]; done)), H', ⟨by have := HJ3.out; have := HJ22.out; have := HJ32.out; first | omega | exact Nat.le_refl _⟩, ⟨by repeat (first | (with_reducible first | exact HB.out | apply below_alloc | apply pw_below_drewN | apply below_drew1) | exact HB.out)⟩⟩
                        case rest =>
                          clear HC57
                          try clear c1
                          try clear p1
                          try clear q1
                          try clear hx1
                          try clear qi1
                          try clear c2
                          try clear p2
                          try clear c3
                          try clear c4
                          try clear c6
                          try clear c7
                          try clear c8
                          try clear p8
                          try clear c12
                          try clear c12b0
                          try clear c12b1
                          try clear c16
                          try clear p16
                          try clear q16
                          try clear hx16
                          try clear qi16
                          try clear c18
                          try clear c19
                          try clear c20
                          try clear c21
                          try clear c22
                          try clear c24
                          try clear c24b0
                          try clear c24b1
                          try clear c25
                          try clear c25b0
                          try clear c25b1
                          try clear c26
                          try clear c26b0
                          try clear c26b1
                          try clear c27
                          try clear c30
                          try clear c30b0
                          try clear c30b1
                          try clear c32
                          try clear c40
                          try clear c40b0
                          try clear c40b1
                          try clear c41
                          try clear c44
                          try clear c44b0
                          try clear c44b1
                          try clear c45
                          try clear c45b0
                          try clear c45b1
                          try clear c68
                          try clear c68b0
                          try clear c68b1
                          try clear c69
                          try clear c69b0
                          try clear c69b1
                          try clear c70
                          try clear c70b0
                          try clear c70b1
                          try clear c72
                          try clear hx161_0
                          try clear p1
                          try clear p16
                          try clear p161
                          try clear p2
                          try clear p8
                          try clear q1
                          try clear q16
                          try clear q161
                          obtain ⟨kq, x121_56, rfl, HA, HJ56, HB⟩ := hcut
                          cases kq with
                          | zero => exact absurd HA.out (by simp [culletlaw10_MatrixInverse.j3])
                          | succ kj56 =>
                            have H := HA.out
                            clear HA
                            simp only [culletlaw10_MatrixInverse.j3] at H
                            by_cases c77 : x121_56 = true
                            · subst c77
                              have H1 : (some false) = some r := by rw [if_pos rfl] at H; exact H
                              clear H
                              have H := H1
                              clear H1
                              obtain rfl := Option.some.inj H
                              go_wp2
                              go_ret
                              exact ⟨by first | rfl | (simp [errW_none, errW_some] <;> rfl) | (simp [*, errW_none, errW_some] <;> rfl), by repeat (first | (with_reducible first | exact HB.out | apply below_alloc | apply pw_below_drewN | apply below_drew1) | exact HB.out)⟩
                            · replace c77 := Bool.eq_false_iff.mpr c77
                              subst c77
                              have H1 : ((culletlaw10_side.f kj56 l1).bind fun t195 => (if t195 = t160 then ((culletlaw10_twin.f l0).bind fun t196 => ((culletlaw10_twin.f l1).bind fun t199 => ((matrix_Mul.f kj56 t196 t199).bind fun bt202 => ((culletlaw10_twin.f l0).bind fun t206 => ((matrix_Solve.f t206 bt202.1).bind fun bt209 => (if bt202.2 = 0 then (if bt209.2 = 0 then ((culletlaw10_same.f kj56 bt209.1 l1).bind fun t213 => (some t213)) else (some false)) else (some false))))))) else (some true))) = some r := by rw [if_neg (show ¬ (false = true) by decide)] at H; exact H
                              clear H
                              have H := H1
                              clear H1
                              replace H := Option.bind_eq_some_iff.mp H
                              obtain ⟨t195, A780, H⟩ := H
                              replace H : (if t195 = t160 then ((culletlaw10_twin.f l0).bind fun t196 => ((culletlaw10_twin.f l1).bind fun t199 => ((matrix_Mul.f kj56 t196 t199).bind fun bt202 => ((culletlaw10_twin.f l0).bind fun t206 => ((matrix_Solve.f t206 bt202.1).bind fun bt209 => (if bt202.2 = 0 then (if bt209.2 = 0 then ((culletlaw10_same.f kj56 bt209.1 l1).bind fun t213 => (some t213)) else (some false)) else (some false))))))) else (some true)) = some r := H
                              have A78 := Aside0.mk A780
                              clear A780
                              by_cases c79 : t195 = t160
                              · rw [if_pos c79] at H
                                have c79b0 : (t195 == t160) = true := beq_iff_eq.mpr c79
                                have c79b1 : (t195 != t160) = false := bne_eq_false_iff_eq.mpr c79
                                clear c79
                                replace H := Option.bind_eq_some_iff.mp H
                                obtain ⟨t196, A800, H⟩ := H
                                replace H : ((culletlaw10_twin.f l1).bind fun t199 => ((matrix_Mul.f kj56 t196 t199).bind fun bt202 => ((culletlaw10_twin.f l0).bind fun t206 => ((matrix_Solve.f t206 bt202.1).bind fun bt209 => (if bt202.2 = 0 then (if bt209.2 = 0 then ((culletlaw10_same.f kj56 bt209.1 l1).bind fun t213 => (some t213)) else (some false)) else (some false)))))) = some r := H
                                have A80 := Aside0.mk A800
                                clear A800
                                replace H := Option.bind_eq_some_iff.mp H
                                obtain ⟨t199, A810, H⟩ := H
                                replace H : ((matrix_Mul.f kj56 t196 t199).bind fun bt202 => ((culletlaw10_twin.f l0).bind fun t206 => ((matrix_Solve.f t206 bt202.1).bind fun bt209 => (if bt202.2 = 0 then (if bt209.2 = 0 then ((culletlaw10_same.f kj56 bt209.1 l1).bind fun t213 => (some t213)) else (some false)) else (some false))))) = some r := H
                                have A81 := Aside0.mk A810
                                clear A810
                                replace H := Option.bind_eq_some_iff.mp H
                                obtain ⟨⟨t202, t203⟩, A820, H⟩ := H
                                replace H : ((culletlaw10_twin.f l0).bind fun t206 => ((matrix_Solve.f t206 t202).bind fun bt209 => (if t203 = 0 then (if bt209.2 = 0 then ((culletlaw10_same.f kj56 bt209.1 l1).bind fun t213 => (some t213)) else (some false)) else (some false)))) = some r := H
                                have A82 := Aside0.mk A820
                                clear A820
                                replace H := Option.bind_eq_some_iff.mp H
                                obtain ⟨t206, A830, H⟩ := H
                                replace H : ((matrix_Solve.f t206 t202).bind fun bt209 => (if t203 = 0 then (if bt209.2 = 0 then ((culletlaw10_same.f kj56 bt209.1 l1).bind fun t213 => (some t213)) else (some false)) else (some false))) = some r := H
                                have A83 := Aside0.mk A830
                                clear A830
                                replace H := Option.bind_eq_some_iff.mp H
                                obtain ⟨⟨t209, t210⟩, A840, H⟩ := H
                                replace H : (if t203 = 0 then (if t210 = 0 then ((culletlaw10_same.f kj56 t209 l1).bind fun t213 => (some t213)) else (some false)) else (some false)) = some r := H
                                have A84 := Aside0.mk A840
                                clear A840
                                by_cases c85 : t203 = 0
                                · rw [if_pos c85] at H
                                  have c85b0 : (t203 == 0) = true := beq_iff_eq.mpr c85
                                  have c85b1 : (t203 != 0) = false := bne_eq_false_iff_eq.mpr c85
                                  clear c85
                                  by_cases c86 : t210 = 0
                                  · rw [if_pos c86] at H
                                    have c86b0 : (t210 == 0) = true := beq_iff_eq.mpr c86
                                    have c86b1 : (t210 != 0) = false := bne_eq_false_iff_eq.mpr c86
                                    clear c86
                                    replace H := Option.bind_eq_some_iff.mp H
                                    obtain ⟨t213, A870, H⟩ := H
                                    replace H : (some t213) = some r := H
                                    have A87 := Aside0.mk A870
                                    clear A870
                                    obtain rfl := Option.some.inj H
                                    go_wp2_with (first | ((with_reducible refine gate_callee (f := 19) rfl ?_); refine goesL_ (some 123) rfl rfl Try.func19 (by kernel_rfl) rfl #[.slice A1 l1.length c1] rfl (by (try simp only [List.map_toArray, List.map_cons, List.map_nil]); first | done | rfl | (simp only [tb_wrap8]; done) | (simp only [tb_wrap8]; rfl) | (simp only [List.length_drop, List.length_take]; rfl)) ?_; (with_reducible refine (culletlaw10_side.calls kj56 _ _ l1 t195 _ ?side1 ?side2 A78.out).mono ?_); (case side1 => repeat (first | exact (Kd.C_below HR1.out HB.out) | (with_reducible refine Kd.C_alloc ?_ _) | (with_reducible refine Kd.C_drewN ?_ _) | (with_reducible refine Kd.C_drew ?_))); (case side2 => exact HC1.out); rintro e w' ⟨rfl, ⟨nd, rfl⟩⟩; refine ⟨_, rfl, ?_⟩) | ((with_reducible refine gate_callee (f := 20) rfl ?_); refine goesL_ (some 128) rfl rfl Try.func20 (by kernel_rfl) rfl #[.slice A0 l0.length c0] rfl (by (try simp only [List.map_toArray, List.map_cons, List.map_nil]); first | done | rfl | (simp only [tb_wrap8]; done) | (simp only [tb_wrap8]; rfl) | (simp only [List.length_drop, List.length_take]; rfl)) ?_; (with_reducible refine (culletlaw10_twin.calls _ _ l0 t196 _ ?side1 ?side2 A80.out).mono ?_); (case side1 => repeat (first | exact (Kd.C_below HR0.out (by repeat (first | (with_reducible first | exact HB.out | apply below_alloc | apply pw_below_drewN | apply below_drew1) | exact HB.out))) | (with_reducible refine Kd.C_alloc ?_ _) | (with_reducible refine Kd.C_drewN ?_ _) | (with_reducible refine Kd.C_drew ?_))); (case side2 => exact HC0.out); rintro e w88 ⟨v197, rfl, ho0, hb⟩; refine ⟨_, rfl, ?_⟩; have n0_ := Aside0.mk (Kd.N_lower (Kd.N_mono (ok' := fun k_ => True) (Kd.S_N (Kd.S_bound ho0)) (fun k_ hk_ => trivial)) (below_size (by repeat (first | (with_reducible first | exact HB.out | apply below_alloc | apply pw_below_drewN | apply below_drew1) | exact HB.out)))); have n1_ := Aside0.mk (below_step (by repeat (first | (with_reducible first | exact HB.out | apply below_alloc | apply pw_below_drewN | apply below_drew1) | exact HB.out)) hb); clear HB; have HO198 := n0_; have HB := n1_; clear n0_ n1_; (try clear hb); (try clear hb2); (try clear hk); (try clear hi); (try clear ho0)) | ((with_reducible refine gate_callee (f := 20) rfl ?_); refine goesL_ (some 130) rfl rfl Try.func20 (by kernel_rfl) rfl #[.slice A1 l1.length c1] rfl (by (try simp only [List.map_toArray, List.map_cons, List.map_nil]); first | done | rfl | (simp only [tb_wrap8]; done) | (simp only [tb_wrap8]; rfl) | (simp only [List.length_drop, List.length_take]; rfl)) ?_; (with_reducible refine (culletlaw10_twin.calls _ _ l1 t199 _ ?side1 ?side2 A81.out).mono ?_); (case side1 => repeat (first | exact (Kd.C_below HR1.out HB.out) | (with_reducible refine Kd.C_alloc ?_ _) | (with_reducible refine Kd.C_drewN ?_ _) | (with_reducible refine Kd.C_drew ?_))); (case side2 => exact HC1.out); rintro e w89 ⟨v200, rfl, ho0, hb⟩; refine ⟨_, rfl, ?_⟩; have n0_ := Aside0.mk (Kd.N_elder' (by (with_reducible repeat (first | apply Kd.N_alloc | apply Kd.N_drewN | apply Kd.N_drew)); exact HO198.out) (by first | exact Kd.N_base ho0 | exact Kd.S_base ho0) hb); have n1_ := Aside0.mk (Kd.N_lower (Kd.N_mono (ok' := fun k_ => some k_ ≠ (v197 : Value).ownBlock) (Kd.S_N (Kd.S_bound ho0)) (fun k_ hk_ => (Kd.fresh' (Kd.N_lt (by (with_reducible repeat (first | apply Kd.N_alloc | apply Kd.N_drewN | apply Kd.N_drew)); exact HO198.out)) k_ hk_.2.1))) (below_size (by repeat (first | (with_reducible first | exact HB.out | apply below_alloc | apply pw_below_drewN | apply below_drew1) | exact HB.out)))); have n2_ := Aside0.mk (below_step (by repeat (first | (with_reducible first | exact HB.out | apply below_alloc | apply pw_below_drewN | apply below_drew1) | exact HB.out)) hb); clear HO198; clear HB; have HO198 := n0_; have HO201 := n1_; have HB := n2_; clear n0_ n1_ n2_; (try clear hb); (try clear hb2); (try clear hk); (try clear hi); (try clear ho0); obtain ⟨Ao90, co90, eo90⟩ := Kd.N_slice HO198.out; subst eo90; obtain ⟨Ao91, co91, eo91⟩ := Kd.N_slice HO201.out; subst eo91) | ((with_reducible refine gate_callee (f := 22) rfl ?_); refine goesL_ (some 131) rfl rfl Try.func22 (by kernel_rfl) rfl #[.slice Ao90 t196.length co90, .slice Ao91 t199.length co91] rfl (by (try simp only [List.map_toArray, List.map_cons, List.map_nil]); first | done | rfl | (simp only [tb_wrap8]; done) | (simp only [tb_wrap8]; rfl) | (simp only [List.length_drop, List.length_take]; rfl)) ?_; (with_reducible refine (matrix_Mul.calls kj56 _ _ t196 _ _ t199 t202 t203 _ ?side1 ?side2 ?side3 ?side4 A82.out).mono ?_); (case side1 => repeat (first | exact (Kd.N_reads' HO198.out).2.2 | (with_reducible refine Kd.C_alloc ?_ _) | (with_reducible refine Kd.C_drewN ?_ _) | (with_reducible refine Kd.C_drew ?_))); (case side2 => exact (Kd.N_reads' HO198.out).2.1); (case side3 => repeat (first | exact (Kd.N_reads' HO201.out).2.2 | (with_reducible refine Kd.C_alloc ?_ _) | (with_reducible refine Kd.C_drewN ?_ _) | (with_reducible refine Kd.C_drew ?_))); (case side4 => exact (Kd.N_reads' HO201.out).2.1); rintro e w92 ⟨v204, rfl, ho0, hb⟩; refine ⟨_, rfl, ?_⟩; have n0_ := Aside0.mk (Kd.N_elder' (by (with_reducible repeat (first | apply Kd.N_alloc | apply Kd.N_drewN | apply Kd.N_drew)); exact HO198.out) (by first | exact Kd.N_base ho0 | exact Kd.S_base ho0) hb); have n1_ := Aside0.mk (Kd.N_elder' (by (with_reducible repeat (first | apply Kd.N_alloc | apply Kd.N_drewN | apply Kd.N_drew)); exact HO201.out) (by first | exact Kd.N_base ho0 | exact Kd.S_base ho0) hb); have n2_ := Aside0.mk (Kd.N_lower (Kd.N_mono (ok' := fun k_ => some k_ ≠ (.slice Ao90 t196.length co90 : Value).ownBlock ∧ some k_ ≠ (.slice Ao91 t199.length co91 : Value).ownBlock) (Kd.S_N (Kd.S_bound ho0)) (fun k_ hk_ => ⟨(Kd.fresh' (Kd.N_lt (by (with_reducible repeat (first | apply Kd.N_alloc | apply Kd.N_drewN | apply Kd.N_drew)); exact HO198.out)) k_ hk_.2.1), (Kd.fresh' (Kd.N_lt (by (with_reducible repeat (first | apply Kd.N_alloc | apply Kd.N_drewN | apply Kd.N_drew)); exact HO201.out)) k_ hk_.2.1)⟩)) (below_size (by repeat (first | (with_reducible first | exact HB.out | apply below_alloc | apply pw_below_drewN | apply below_drew1) | exact HB.out)))); have n3_ := Aside0.mk (below_step (by repeat (first | (with_reducible first | exact HB.out | apply below_alloc | apply pw_below_drewN | apply below_drew1) | exact HB.out)) hb); clear HO198; clear HO201; clear HB; have HO198 := n0_; have HO201 := n1_; have HO205 := n2_; have HB := n3_; clear n0_ n1_ n2_ n3_; (try clear hb); (try clear hb2); (try clear hk); (try clear hi); (try clear ho0)) | ((with_reducible refine gate_callee (f := 20) rfl ?_); refine goesL_ (some 136) rfl rfl Try.func20 (by kernel_rfl) rfl #[.slice A0 l0.length c0] rfl (by (try simp only [List.map_toArray, List.map_cons, List.map_nil]); first | done | rfl | (simp only [tb_wrap8]; done) | (simp only [tb_wrap8]; rfl) | (simp only [List.length_drop, List.length_take]; rfl)) ?_; (with_reducible refine (culletlaw10_twin.calls _ _ l0 t206 _ ?side1 ?side2 A83.out).mono ?_); (case side1 => repeat (first | exact (Kd.C_below HR0.out HB.out) | (with_reducible refine Kd.C_alloc ?_ _) | (with_reducible refine Kd.C_drewN ?_ _) | (with_reducible refine Kd.C_drew ?_))); (case side2 => exact HC0.out); rintro e w93 ⟨v207, rfl, ho0, hb⟩; refine ⟨_, rfl, ?_⟩; have n0_ := Aside0.mk (Kd.N_elder' (by (with_reducible repeat (first | apply Kd.N_alloc | apply Kd.N_drewN | apply Kd.N_drew)); exact HO198.out) (by first | exact Kd.N_base ho0 | exact Kd.S_base ho0) hb); have n1_ := Aside0.mk (Kd.N_elder' (by (with_reducible repeat (first | apply Kd.N_alloc | apply Kd.N_drewN | apply Kd.N_drew)); exact HO201.out) (by first | exact Kd.N_base ho0 | exact Kd.S_base ho0) hb); have n2_ := Aside0.mk (Kd.N_elder' (by (with_reducible repeat (first | apply Kd.N_alloc | apply Kd.N_drewN | apply Kd.N_drew)); exact HO205.out) (by first | exact Kd.N_base ho0 | exact Kd.S_base ho0) hb); have n3_ := Aside0.mk (Kd.N_lower (Kd.N_mono (ok' := fun k_ => some k_ ≠ (.slice Ao90 t196.length co90 : Value).ownBlock ∧ some k_ ≠ (.slice Ao91 t199.length co91 : Value).ownBlock ∧ some k_ ≠ (v204 : Value).ownBlock) (Kd.S_N (Kd.S_bound ho0)) (fun k_ hk_ => ⟨(Kd.fresh' (Kd.N_lt (by (with_reducible repeat (first | apply Kd.N_alloc | apply Kd.N_drewN | apply Kd.N_drew)); exact HO198.out)) k_ hk_.2.1), (Kd.fresh' (Kd.N_lt (by (with_reducible repeat (first | apply Kd.N_alloc | apply Kd.N_drewN | apply Kd.N_drew)); exact HO201.out)) k_ hk_.2.1), (Kd.fresh' (Kd.N_lt (by (with_reducible repeat (first | apply Kd.N_alloc | apply Kd.N_drewN | apply Kd.N_drew)); exact HO205.out)) k_ hk_.2.1)⟩)) (below_size (by repeat (first | (with_reducible first | exact HB.out | apply below_alloc | apply pw_below_drewN | apply below_drew1) | exact HB.out)))); have n4_ := Aside0.mk (below_step (by repeat (first | (with_reducible first | exact HB.out | apply below_alloc | apply pw_below_drewN | apply below_drew1) | exact HB.out)) hb); clear HO198; clear HO201; clear HO205; clear HB; have HO198 := n0_; have HO201 := n1_; have HO205 := n2_; have HO208 := n3_; have HB := n4_; clear n0_ n1_ n2_ n3_ n4_; (try clear hb); (try clear hb2); (try clear hk); (try clear hi); (try clear ho0); obtain ⟨Ao94, co94, eo94⟩ := Kd.N_slice HO208.out; subst eo94; obtain ⟨Ao95, co95, eo95⟩ := Kd.N_slice HO205.out; subst eo95) | ((with_reducible refine gate_callee (f := 34) rfl ?_); refine goesL_ (some 138) rfl rfl Try.func34 (by kernel_rfl) rfl #[.slice Ao94 t206.length co94, .slice Ao95 t202.length co95] rfl (by (try simp only [List.map_toArray, List.map_cons, List.map_nil]); first | done | rfl | (simp only [tb_wrap8]; done) | (simp only [tb_wrap8]; rfl) | (simp only [List.length_drop, List.length_take]; rfl)) ?_; (with_reducible refine (matrix_Solve.calls _ _ t206 _ _ t202 t209 t210 _ ?side1 ?side2 ?side3 ?side4 A84.out).mono ?_); (case side1 => repeat (first | exact (Kd.N_reads' HO208.out).2.2 | (with_reducible refine Kd.C_alloc ?_ _) | (with_reducible refine Kd.C_drewN ?_ _) | (with_reducible refine Kd.C_drew ?_))); (case side2 => exact (Kd.N_reads' HO208.out).2.1); (case side3 => repeat (first | exact (Kd.N_reads' HO205.out).2.2 | (with_reducible refine Kd.C_alloc ?_ _) | (with_reducible refine Kd.C_drewN ?_ _) | (with_reducible refine Kd.C_drew ?_))); (case side4 => exact (Kd.N_reads' HO205.out).2.1); rintro e w96 ⟨v211, rfl, ho0, hb⟩; refine ⟨_, rfl, ?_⟩; have n0_ := Aside0.mk (Kd.N_elder' (by (with_reducible repeat (first | apply Kd.N_alloc | apply Kd.N_drewN | apply Kd.N_drew)); exact HO198.out) (by first | exact Kd.N_base ho0 | exact Kd.S_base ho0) hb); have n1_ := Aside0.mk (Kd.N_elder' (by (with_reducible repeat (first | apply Kd.N_alloc | apply Kd.N_drewN | apply Kd.N_drew)); exact HO201.out) (by first | exact Kd.N_base ho0 | exact Kd.S_base ho0) hb); have n2_ := Aside0.mk (Kd.N_elder' (by (with_reducible repeat (first | apply Kd.N_alloc | apply Kd.N_drewN | apply Kd.N_drew)); exact HO205.out) (by first | exact Kd.N_base ho0 | exact Kd.S_base ho0) hb); have n3_ := Aside0.mk (Kd.N_elder' (by (with_reducible repeat (first | apply Kd.N_alloc | apply Kd.N_drewN | apply Kd.N_drew)); exact HO208.out) (by first | exact Kd.N_base ho0 | exact Kd.S_base ho0) hb); have n4_ := Aside0.mk (Kd.N_lower (Kd.N_mono (ok' := fun k_ => some k_ ≠ (.slice Ao90 t196.length co90 : Value).ownBlock ∧ some k_ ≠ (.slice Ao91 t199.length co91 : Value).ownBlock ∧ some k_ ≠ (.slice Ao95 t202.length co95 : Value).ownBlock ∧ some k_ ≠ (.slice Ao94 t206.length co94 : Value).ownBlock) (Kd.S_N (Kd.S_bound ho0)) (fun k_ hk_ => ⟨(Kd.fresh' (Kd.N_lt (by (with_reducible repeat (first | apply Kd.N_alloc | apply Kd.N_drewN | apply Kd.N_drew)); exact HO198.out)) k_ hk_.2.1), (Kd.fresh' (Kd.N_lt (by (with_reducible repeat (first | apply Kd.N_alloc | apply Kd.N_drewN | apply Kd.N_drew)); exact HO201.out)) k_ hk_.2.1), (Kd.fresh' (Kd.N_lt (by (with_reducible repeat (first | apply Kd.N_alloc | apply Kd.N_drewN | apply Kd.N_drew)); exact HO205.out)) k_ hk_.2.1), (Kd.fresh' (Kd.N_lt (by (with_reducible repeat (first | apply Kd.N_alloc | apply Kd.N_drewN | apply Kd.N_drew)); exact HO208.out)) k_ hk_.2.1)⟩)) (below_size (by repeat (first | (with_reducible first | exact HB.out | apply below_alloc | apply pw_below_drewN | apply below_drew1) | exact HB.out)))); have n5_ := Aside0.mk (below_step (by repeat (first | (with_reducible first | exact HB.out | apply below_alloc | apply pw_below_drewN | apply below_drew1) | exact HB.out)) hb); clear HO198; clear HO201; clear HO205; clear HO208; clear HB; have HO198 := n0_; have HO201 := n1_; have HO205 := n2_; have HO208 := n3_; have HO212 := n4_; have HB := n5_; clear n0_ n1_ n2_ n3_ n4_ n5_; (try clear hb); (try clear hb2); (try clear hk); (try clear hi); (try clear ho0); obtain ⟨Ao97, co97, eo97⟩ := Kd.N_slice HO212.out; subst eo97) | (go_at_call 24; (with_reducible refine (culletlaw10_same.calls kj56 _ _ t209 _ _ l1 t213 _ ?side1 ?side2 ?side3 ?side4 A87.out).mono ?_); (case side1 => repeat (first | exact (Kd.N_reads' HO212.out).2.2 | (with_reducible refine Kd.C_alloc ?_ _) | (with_reducible refine Kd.C_drewN ?_ _) | (with_reducible refine Kd.C_drew ?_))); (case side2 => exact (Kd.N_reads' HO212.out).2.1); (case side3 => repeat (first | exact (Kd.C_below HR1.out HB.out) | (with_reducible refine Kd.C_alloc ?_ _) | (with_reducible refine Kd.C_drewN ?_ _) | (with_reducible refine Kd.C_drew ?_))); (case side4 => exact HC1.out); rintro e w' ⟨rfl, ⟨nd, rfl⟩⟩))
                                    go_ret
                                    exact ⟨by first | rfl | (simp [errW_none, errW_some] <;> rfl) | (simp [*, errW_none, errW_some] <;> rfl), by repeat (first | (with_reducible first | exact HB.out | apply below_alloc | apply pw_below_drewN | apply below_drew1) | exact HB.out)⟩
                                  · rw [if_neg c86] at H
                                    have c86b0 : (t210 == 0) = false := beq_eq_false_iff_ne.mpr c86
                                    have c86b1 : (t210 != 0) = true := bne_iff_ne.mpr c86
                                    obtain rfl := Option.some.inj H
                                    go_wp2_with (first | ((with_reducible refine gate_callee (f := 19) rfl ?_); refine goesL_ (some 123) rfl rfl Try.func19 (by kernel_rfl) rfl #[.slice A1 l1.length c1] rfl (by (try simp only [List.map_toArray, List.map_cons, List.map_nil]); first | done | rfl | (simp only [tb_wrap8]; done) | (simp only [tb_wrap8]; rfl) | (simp only [List.length_drop, List.length_take]; rfl)) ?_; (with_reducible refine (culletlaw10_side.calls kj56 _ _ l1 t195 _ ?side1 ?side2 A78.out).mono ?_); (case side1 => repeat (first | exact (Kd.C_below HR1.out HB.out) | (with_reducible refine Kd.C_alloc ?_ _) | (with_reducible refine Kd.C_drewN ?_ _) | (with_reducible refine Kd.C_drew ?_))); (case side2 => exact HC1.out); rintro e w' ⟨rfl, ⟨nd, rfl⟩⟩; refine ⟨_, rfl, ?_⟩) | ((with_reducible refine gate_callee (f := 20) rfl ?_); refine goesL_ (some 128) rfl rfl Try.func20 (by kernel_rfl) rfl #[.slice A0 l0.length c0] rfl (by (try simp only [List.map_toArray, List.map_cons, List.map_nil]); first | done | rfl | (simp only [tb_wrap8]; done) | (simp only [tb_wrap8]; rfl) | (simp only [List.length_drop, List.length_take]; rfl)) ?_; (with_reducible refine (culletlaw10_twin.calls _ _ l0 t196 _ ?side1 ?side2 A80.out).mono ?_); (case side1 => repeat (first | exact (Kd.C_below HR0.out (by repeat (first | (with_reducible first | exact HB.out | apply below_alloc | apply pw_below_drewN | apply below_drew1) | exact HB.out))) | (with_reducible refine Kd.C_alloc ?_ _) | (with_reducible refine Kd.C_drewN ?_ _) | (with_reducible refine Kd.C_drew ?_))); (case side2 => exact HC0.out); rintro e w98 ⟨v197, rfl, ho0, hb⟩; refine ⟨_, rfl, ?_⟩; have n0_ := Aside0.mk (Kd.N_lower (Kd.N_mono (ok' := fun k_ => True) (Kd.S_N (Kd.S_bound ho0)) (fun k_ hk_ => trivial)) (below_size (by repeat (first | (with_reducible first | exact HB.out | apply below_alloc | apply pw_below_drewN | apply below_drew1) | exact HB.out)))); have n1_ := Aside0.mk (below_step (by repeat (first | (with_reducible first | exact HB.out | apply below_alloc | apply pw_below_drewN | apply below_drew1) | exact HB.out)) hb); clear HB; have HO198 := n0_; have HB := n1_; clear n0_ n1_; (try clear hb); (try clear hb2); (try clear hk); (try clear hi); (try clear ho0)) | ((with_reducible refine gate_callee (f := 20) rfl ?_); refine goesL_ (some 130) rfl rfl Try.func20 (by kernel_rfl) rfl #[.slice A1 l1.length c1] rfl (by (try simp only [List.map_toArray, List.map_cons, List.map_nil]); first | done | rfl | (simp only [tb_wrap8]; done) | (simp only [tb_wrap8]; rfl) | (simp only [List.length_drop, List.length_take]; rfl)) ?_; (with_reducible refine (culletlaw10_twin.calls _ _ l1 t199 _ ?side1 ?side2 A81.out).mono ?_); (case side1 => repeat (first | exact (Kd.C_below HR1.out HB.out) | (with_reducible refine Kd.C_alloc ?_ _) | (with_reducible refine Kd.C_drewN ?_ _) | (with_reducible refine Kd.C_drew ?_))); (case side2 => exact HC1.out); rintro e w99 ⟨v200, rfl, ho0, hb⟩; refine ⟨_, rfl, ?_⟩; have n0_ := Aside0.mk (Kd.N_elder' (by (with_reducible repeat (first | apply Kd.N_alloc | apply Kd.N_drewN | apply Kd.N_drew)); exact HO198.out) (by first | exact Kd.N_base ho0 | exact Kd.S_base ho0) hb); have n1_ := Aside0.mk (Kd.N_lower (Kd.N_mono (ok' := fun k_ => some k_ ≠ (v197 : Value).ownBlock) (Kd.S_N (Kd.S_bound ho0)) (fun k_ hk_ => (Kd.fresh' (Kd.N_lt (by (with_reducible repeat (first | apply Kd.N_alloc | apply Kd.N_drewN | apply Kd.N_drew)); exact HO198.out)) k_ hk_.2.1))) (below_size (by repeat (first | (with_reducible first | exact HB.out | apply below_alloc | apply pw_below_drewN | apply below_drew1) | exact HB.out)))); have n2_ := Aside0.mk (below_step (by repeat (first | (with_reducible first | exact HB.out | apply below_alloc | apply pw_below_drewN | apply below_drew1) | exact HB.out)) hb); clear HO198; clear HB; have HO198 := n0_; have HO201 := n1_; have HB := n2_; clear n0_ n1_ n2_; (try clear hb); (try clear hb2); (try clear hk); (try clear hi); (try clear ho0); obtain ⟨Ao100, co100, eo100⟩ := Kd.N_slice HO198.out; subst eo100; obtain ⟨Ao101, co101, eo101⟩ := Kd.N_slice HO201.out; subst eo101) | ((with_reducible refine gate_callee (f := 22) rfl ?_); refine goesL_ (some 131) rfl rfl Try.func22 (by kernel_rfl) rfl #[.slice Ao100 t196.length co100, .slice Ao101 t199.length co101] rfl (by (try simp only [List.map_toArray, List.map_cons, List.map_nil]); first | done | rfl | (simp only [tb_wrap8]; done) | (simp only [tb_wrap8]; rfl) | (simp only [List.length_drop, List.length_take]; rfl)) ?_; (with_reducible refine (matrix_Mul.calls kj56 _ _ t196 _ _ t199 t202 t203 _ ?side1 ?side2 ?side3 ?side4 A82.out).mono ?_); (case side1 => repeat (first | exact (Kd.N_reads' HO198.out).2.2 | (with_reducible refine Kd.C_alloc ?_ _) | (with_reducible refine Kd.C_drewN ?_ _) | (with_reducible refine Kd.C_drew ?_))); (case side2 => exact (Kd.N_reads' HO198.out).2.1); (case side3 => repeat (first | exact (Kd.N_reads' HO201.out).2.2 | (with_reducible refine Kd.C_alloc ?_ _) | (with_reducible refine Kd.C_drewN ?_ _) | (with_reducible refine Kd.C_drew ?_))); (case side4 => exact (Kd.N_reads' HO201.out).2.1); rintro e w102 ⟨v204, rfl, ho0, hb⟩; refine ⟨_, rfl, ?_⟩; have n0_ := Aside0.mk (Kd.N_elder' (by (with_reducible repeat (first | apply Kd.N_alloc | apply Kd.N_drewN | apply Kd.N_drew)); exact HO198.out) (by first | exact Kd.N_base ho0 | exact Kd.S_base ho0) hb); have n1_ := Aside0.mk (Kd.N_elder' (by (with_reducible repeat (first | apply Kd.N_alloc | apply Kd.N_drewN | apply Kd.N_drew)); exact HO201.out) (by first | exact Kd.N_base ho0 | exact Kd.S_base ho0) hb); have n2_ := Aside0.mk (Kd.N_lower (Kd.N_mono (ok' := fun k_ => some k_ ≠ (.slice Ao100 t196.length co100 : Value).ownBlock ∧ some k_ ≠ (.slice Ao101 t199.length co101 : Value).ownBlock) (Kd.S_N (Kd.S_bound ho0)) (fun k_ hk_ => ⟨(Kd.fresh' (Kd.N_lt (by (with_reducible repeat (first | apply Kd.N_alloc | apply Kd.N_drewN | apply Kd.N_drew)); exact HO198.out)) k_ hk_.2.1), (Kd.fresh' (Kd.N_lt (by (with_reducible repeat (first | apply Kd.N_alloc | apply Kd.N_drewN | apply Kd.N_drew)); exact HO201.out)) k_ hk_.2.1)⟩)) (below_size (by repeat (first | (with_reducible first | exact HB.out | apply below_alloc | apply pw_below_drewN | apply below_drew1) | exact HB.out)))); have n3_ := Aside0.mk (below_step (by repeat (first | (with_reducible first | exact HB.out | apply below_alloc | apply pw_below_drewN | apply below_drew1) | exact HB.out)) hb); clear HO198; clear HO201; clear HB; have HO198 := n0_; have HO201 := n1_; have HO205 := n2_; have HB := n3_; clear n0_ n1_ n2_ n3_; (try clear hb); (try clear hb2); (try clear hk); (try clear hi); (try clear ho0)) | ((with_reducible refine gate_callee (f := 20) rfl ?_); refine goesL_ (some 136) rfl rfl Try.func20 (by kernel_rfl) rfl #[.slice A0 l0.length c0] rfl (by (try simp only [List.map_toArray, List.map_cons, List.map_nil]); first | done | rfl | (simp only [tb_wrap8]; done) | (simp only [tb_wrap8]; rfl) | (simp only [List.length_drop, List.length_take]; rfl)) ?_; (with_reducible refine (culletlaw10_twin.calls _ _ l0 t206 _ ?side1 ?side2 A83.out).mono ?_); (case side1 => repeat (first | exact (Kd.C_below HR0.out HB.out) | (with_reducible refine Kd.C_alloc ?_ _) | (with_reducible refine Kd.C_drewN ?_ _) | (with_reducible refine Kd.C_drew ?_))); (case side2 => exact HC0.out); rintro e w103 ⟨v207, rfl, ho0, hb⟩; refine ⟨_, rfl, ?_⟩; have n0_ := Aside0.mk (Kd.N_elder' (by (with_reducible repeat (first | apply Kd.N_alloc | apply Kd.N_drewN | apply Kd.N_drew)); exact HO198.out) (by first | exact Kd.N_base ho0 | exact Kd.S_base ho0) hb); have n1_ := Aside0.mk (Kd.N_elder' (by (with_reducible repeat (first | apply Kd.N_alloc | apply Kd.N_drewN | apply Kd.N_drew)); exact HO201.out) (by first | exact Kd.N_base ho0 | exact Kd.S_base ho0) hb); have n2_ := Aside0.mk (Kd.N_elder' (by (with_reducible repeat (first | apply Kd.N_alloc | apply Kd.N_drewN | apply Kd.N_drew)); exact HO205.out) (by first | exact Kd.N_base ho0 | exact Kd.S_base ho0) hb); have n3_ := Aside0.mk (Kd.N_lower (Kd.N_mono (ok' := fun k_ => some k_ ≠ (.slice Ao100 t196.length co100 : Value).ownBlock ∧ some k_ ≠ (.slice Ao101 t199.length co101 : Value).ownBlock ∧ some k_ ≠ (v204 : Value).ownBlock) (Kd.S_N (Kd.S_bound ho0)) (fun k_ hk_ => ⟨(Kd.fresh' (Kd.N_lt (by (with_reducible repeat (first | apply Kd.N_alloc | apply Kd.N_drewN | apply Kd.N_drew)); exact HO198.out)) k_ hk_.2.1), (Kd.fresh' (Kd.N_lt (by (with_reducible repeat (first | apply Kd.N_alloc | apply Kd.N_drewN | apply Kd.N_drew)); exact HO201.out)) k_ hk_.2.1), (Kd.fresh' (Kd.N_lt (by (with_reducible repeat (first | apply Kd.N_alloc | apply Kd.N_drewN | apply Kd.N_drew)); exact HO205.out)) k_ hk_.2.1)⟩)) (below_size (by repeat (first | (with_reducible first | exact HB.out | apply below_alloc | apply pw_below_drewN | apply below_drew1) | exact HB.out)))); have n4_ := Aside0.mk (below_step (by repeat (first | (with_reducible first | exact HB.out | apply below_alloc | apply pw_below_drewN | apply below_drew1) | exact HB.out)) hb); clear HO198; clear HO201; clear HO205; clear HB; have HO198 := n0_; have HO201 := n1_; have HO205 := n2_; have HO208 := n3_; have HB := n4_; clear n0_ n1_ n2_ n3_ n4_; (try clear hb); (try clear hb2); (try clear hk); (try clear hi); (try clear ho0); obtain ⟨Ao104, co104, eo104⟩ := Kd.N_slice HO208.out; subst eo104; obtain ⟨Ao105, co105, eo105⟩ := Kd.N_slice HO205.out; subst eo105) | ((with_reducible refine gate_callee (f := 34) rfl ?_); refine goesL_ (some 138) rfl rfl Try.func34 (by kernel_rfl) rfl #[.slice Ao104 t206.length co104, .slice Ao105 t202.length co105] rfl (by (try simp only [List.map_toArray, List.map_cons, List.map_nil]); first | done | rfl | (simp only [tb_wrap8]; done) | (simp only [tb_wrap8]; rfl) | (simp only [List.length_drop, List.length_take]; rfl)) ?_; (with_reducible refine (matrix_Solve.calls _ _ t206 _ _ t202 t209 t210 _ ?side1 ?side2 ?side3 ?side4 A84.out).mono ?_); (case side1 => repeat (first | exact (Kd.N_reads' HO208.out).2.2 | (with_reducible refine Kd.C_alloc ?_ _) | (with_reducible refine Kd.C_drewN ?_ _) | (with_reducible refine Kd.C_drew ?_))); (case side2 => exact (Kd.N_reads' HO208.out).2.1); (case side3 => repeat (first | exact (Kd.N_reads' HO205.out).2.2 | (with_reducible refine Kd.C_alloc ?_ _) | (with_reducible refine Kd.C_drewN ?_ _) | (with_reducible refine Kd.C_drew ?_))); (case side4 => exact (Kd.N_reads' HO205.out).2.1); rintro e w106 ⟨v211, rfl, ho0, hb⟩; refine ⟨_, rfl, ?_⟩; have n0_ := Aside0.mk (Kd.N_elder' (by (with_reducible repeat (first | apply Kd.N_alloc | apply Kd.N_drewN | apply Kd.N_drew)); exact HO198.out) (by first | exact Kd.N_base ho0 | exact Kd.S_base ho0) hb); have n1_ := Aside0.mk (Kd.N_elder' (by (with_reducible repeat (first | apply Kd.N_alloc | apply Kd.N_drewN | apply Kd.N_drew)); exact HO201.out) (by first | exact Kd.N_base ho0 | exact Kd.S_base ho0) hb); have n2_ := Aside0.mk (Kd.N_elder' (by (with_reducible repeat (first | apply Kd.N_alloc | apply Kd.N_drewN | apply Kd.N_drew)); exact HO205.out) (by first | exact Kd.N_base ho0 | exact Kd.S_base ho0) hb); have n3_ := Aside0.mk (Kd.N_elder' (by (with_reducible repeat (first | apply Kd.N_alloc | apply Kd.N_drewN | apply Kd.N_drew)); exact HO208.out) (by first | exact Kd.N_base ho0 | exact Kd.S_base ho0) hb); have n4_ := Aside0.mk (Kd.N_lower (Kd.N_mono (ok' := fun k_ => some k_ ≠ (.slice Ao100 t196.length co100 : Value).ownBlock ∧ some k_ ≠ (.slice Ao101 t199.length co101 : Value).ownBlock ∧ some k_ ≠ (.slice Ao105 t202.length co105 : Value).ownBlock ∧ some k_ ≠ (.slice Ao104 t206.length co104 : Value).ownBlock) (Kd.S_N (Kd.S_bound ho0)) (fun k_ hk_ => ⟨(Kd.fresh' (Kd.N_lt (by (with_reducible repeat (first | apply Kd.N_alloc | apply Kd.N_drewN | apply Kd.N_drew)); exact HO198.out)) k_ hk_.2.1), (Kd.fresh' (Kd.N_lt (by (with_reducible repeat (first | apply Kd.N_alloc | apply Kd.N_drewN | apply Kd.N_drew)); exact HO201.out)) k_ hk_.2.1), (Kd.fresh' (Kd.N_lt (by (with_reducible repeat (first | apply Kd.N_alloc | apply Kd.N_drewN | apply Kd.N_drew)); exact HO205.out)) k_ hk_.2.1), (Kd.fresh' (Kd.N_lt (by (with_reducible repeat (first | apply Kd.N_alloc | apply Kd.N_drewN | apply Kd.N_drew)); exact HO208.out)) k_ hk_.2.1)⟩)) (below_size (by repeat (first | (with_reducible first | exact HB.out | apply below_alloc | apply pw_below_drewN | apply below_drew1) | exact HB.out)))); have n5_ := Aside0.mk (below_step (by repeat (first | (with_reducible first | exact HB.out | apply below_alloc | apply pw_below_drewN | apply below_drew1) | exact HB.out)) hb); clear HO198; clear HO201; clear HO205; clear HO208; clear HB; have HO198 := n0_; have HO201 := n1_; have HO205 := n2_; have HO208 := n3_; have HO212 := n4_; have HB := n5_; clear n0_ n1_ n2_ n3_ n4_ n5_; (try clear hb); (try clear hb2); (try clear hk); (try clear hi); (try clear ho0)))
                                    go_ret
                                    exact ⟨by first | rfl | (simp [errW_none, errW_some] <;> rfl) | (simp [*, errW_none, errW_some] <;> rfl), by repeat (first | (with_reducible first | exact HB.out | apply below_alloc | apply pw_below_drewN | apply below_drew1) | exact HB.out)⟩
                                · rw [if_neg c85] at H
                                  have c85b0 : (t203 == 0) = false := beq_eq_false_iff_ne.mpr c85
                                  have c85b1 : (t203 != 0) = true := bne_iff_ne.mpr c85
                                  obtain rfl := Option.some.inj H
                                  go_wp2_with (first | ((with_reducible refine gate_callee (f := 19) rfl ?_); refine goesL_ (some 123) rfl rfl Try.func19 (by kernel_rfl) rfl #[.slice A1 l1.length c1] rfl (by (try simp only [List.map_toArray, List.map_cons, List.map_nil]); first | done | rfl | (simp only [tb_wrap8]; done) | (simp only [tb_wrap8]; rfl) | (simp only [List.length_drop, List.length_take]; rfl)) ?_; (with_reducible refine (culletlaw10_side.calls kj56 _ _ l1 t195 _ ?side1 ?side2 A78.out).mono ?_); (case side1 => repeat (first | exact (Kd.C_below HR1.out HB.out) | (with_reducible refine Kd.C_alloc ?_ _) | (with_reducible refine Kd.C_drewN ?_ _) | (with_reducible refine Kd.C_drew ?_))); (case side2 => exact HC1.out); rintro e w' ⟨rfl, ⟨nd, rfl⟩⟩; refine ⟨_, rfl, ?_⟩) | ((with_reducible refine gate_callee (f := 20) rfl ?_); refine goesL_ (some 128) rfl rfl Try.func20 (by kernel_rfl) rfl #[.slice A0 l0.length c0] rfl (by (try simp only [List.map_toArray, List.map_cons, List.map_nil]); first | done | rfl | (simp only [tb_wrap8]; done) | (simp only [tb_wrap8]; rfl) | (simp only [List.length_drop, List.length_take]; rfl)) ?_; (with_reducible refine (culletlaw10_twin.calls _ _ l0 t196 _ ?side1 ?side2 A80.out).mono ?_); (case side1 => repeat (first | exact (Kd.C_below HR0.out (by repeat (first | (with_reducible first | exact HB.out | apply below_alloc | apply pw_below_drewN | apply below_drew1) | exact HB.out))) | (with_reducible refine Kd.C_alloc ?_ _) | (with_reducible refine Kd.C_drewN ?_ _) | (with_reducible refine Kd.C_drew ?_))); (case side2 => exact HC0.out); rintro e w107 ⟨v197, rfl, ho0, hb⟩; refine ⟨_, rfl, ?_⟩; have n0_ := Aside0.mk (Kd.N_lower (Kd.N_mono (ok' := fun k_ => True) (Kd.S_N (Kd.S_bound ho0)) (fun k_ hk_ => trivial)) (below_size (by repeat (first | (with_reducible first | exact HB.out | apply below_alloc | apply pw_below_drewN | apply below_drew1) | exact HB.out)))); have n1_ := Aside0.mk (below_step (by repeat (first | (with_reducible first | exact HB.out | apply below_alloc | apply pw_below_drewN | apply below_drew1) | exact HB.out)) hb); clear HB; have HO198 := n0_; have HB := n1_; clear n0_ n1_; (try clear hb); (try clear hb2); (try clear hk); (try clear hi); (try clear ho0)) | ((with_reducible refine gate_callee (f := 20) rfl ?_); refine goesL_ (some 130) rfl rfl Try.func20 (by kernel_rfl) rfl #[.slice A1 l1.length c1] rfl (by (try simp only [List.map_toArray, List.map_cons, List.map_nil]); first | done | rfl | (simp only [tb_wrap8]; done) | (simp only [tb_wrap8]; rfl) | (simp only [List.length_drop, List.length_take]; rfl)) ?_; (with_reducible refine (culletlaw10_twin.calls _ _ l1 t199 _ ?side1 ?side2 A81.out).mono ?_); (case side1 => repeat (first | exact (Kd.C_below HR1.out HB.out) | (with_reducible refine Kd.C_alloc ?_ _) | (with_reducible refine Kd.C_drewN ?_ _) | (with_reducible refine Kd.C_drew ?_))); (case side2 => exact HC1.out); rintro e w108 ⟨v200, rfl, ho0, hb⟩; refine ⟨_, rfl, ?_⟩; have n0_ := Aside0.mk (Kd.N_elder' (by (with_reducible repeat (first | apply Kd.N_alloc | apply Kd.N_drewN | apply Kd.N_drew)); exact HO198.out) (by first | exact Kd.N_base ho0 | exact Kd.S_base ho0) hb); have n1_ := Aside0.mk (Kd.N_lower (Kd.N_mono (ok' := fun k_ => some k_ ≠ (v197 : Value).ownBlock) (Kd.S_N (Kd.S_bound ho0)) (fun k_ hk_ => (Kd.fresh' (Kd.N_lt (by (with_reducible repeat (first | apply Kd.N_alloc | apply Kd.N_drewN | apply Kd.N_drew)); exact HO198.out)) k_ hk_.2.1))) (below_size (by repeat (first | (with_reducible first | exact HB.out | apply below_alloc | apply pw_below_drewN | apply below_drew1) | exact HB.out)))); have n2_ := Aside0.mk (below_step (by repeat (first | (with_reducible first | exact HB.out | apply below_alloc | apply pw_below_drewN | apply below_drew1) | exact HB.out)) hb); clear HO198; clear HB; have HO198 := n0_; have HO201 := n1_; have HB := n2_; clear n0_ n1_ n2_; (try clear hb); (try clear hb2); (try clear hk); (try clear hi); (try clear ho0); obtain ⟨Ao109, co109, eo109⟩ := Kd.N_slice HO198.out; subst eo109; obtain ⟨Ao110, co110, eo110⟩ := Kd.N_slice HO201.out; subst eo110) | ((with_reducible refine gate_callee (f := 22) rfl ?_); refine goesL_ (some 131) rfl rfl Try.func22 (by kernel_rfl) rfl #[.slice Ao109 t196.length co109, .slice Ao110 t199.length co110] rfl (by (try simp only [List.map_toArray, List.map_cons, List.map_nil]); first | done | rfl | (simp only [tb_wrap8]; done) | (simp only [tb_wrap8]; rfl) | (simp only [List.length_drop, List.length_take]; rfl)) ?_; (with_reducible refine (matrix_Mul.calls kj56 _ _ t196 _ _ t199 t202 t203 _ ?side1 ?side2 ?side3 ?side4 A82.out).mono ?_); (case side1 => repeat (first | exact (Kd.N_reads' HO198.out).2.2 | (with_reducible refine Kd.C_alloc ?_ _) | (with_reducible refine Kd.C_drewN ?_ _) | (with_reducible refine Kd.C_drew ?_))); (case side2 => exact (Kd.N_reads' HO198.out).2.1); (case side3 => repeat (first | exact (Kd.N_reads' HO201.out).2.2 | (with_reducible refine Kd.C_alloc ?_ _) | (with_reducible refine Kd.C_drewN ?_ _) | (with_reducible refine Kd.C_drew ?_))); (case side4 => exact (Kd.N_reads' HO201.out).2.1); rintro e w111 ⟨v204, rfl, ho0, hb⟩; refine ⟨_, rfl, ?_⟩; have n0_ := Aside0.mk (Kd.N_elder' (by (with_reducible repeat (first | apply Kd.N_alloc | apply Kd.N_drewN | apply Kd.N_drew)); exact HO198.out) (by first | exact Kd.N_base ho0 | exact Kd.S_base ho0) hb); have n1_ := Aside0.mk (Kd.N_elder' (by (with_reducible repeat (first | apply Kd.N_alloc | apply Kd.N_drewN | apply Kd.N_drew)); exact HO201.out) (by first | exact Kd.N_base ho0 | exact Kd.S_base ho0) hb); have n2_ := Aside0.mk (Kd.N_lower (Kd.N_mono (ok' := fun k_ => some k_ ≠ (.slice Ao109 t196.length co109 : Value).ownBlock ∧ some k_ ≠ (.slice Ao110 t199.length co110 : Value).ownBlock) (Kd.S_N (Kd.S_bound ho0)) (fun k_ hk_ => ⟨(Kd.fresh' (Kd.N_lt (by (with_reducible repeat (first | apply Kd.N_alloc | apply Kd.N_drewN | apply Kd.N_drew)); exact HO198.out)) k_ hk_.2.1), (Kd.fresh' (Kd.N_lt (by (with_reducible repeat (first | apply Kd.N_alloc | apply Kd.N_drewN | apply Kd.N_drew)); exact HO201.out)) k_ hk_.2.1)⟩)) (below_size (by repeat (first | (with_reducible first | exact HB.out | apply below_alloc | apply pw_below_drewN | apply below_drew1) | exact HB.out)))); have n3_ := Aside0.mk (below_step (by repeat (first | (with_reducible first | exact HB.out | apply below_alloc | apply pw_below_drewN | apply below_drew1) | exact HB.out)) hb); clear HO198; clear HO201; clear HB; have HO198 := n0_; have HO201 := n1_; have HO205 := n2_; have HB := n3_; clear n0_ n1_ n2_ n3_; (try clear hb); (try clear hb2); (try clear hk); (try clear hi); (try clear ho0)) | ((with_reducible refine gate_callee (f := 20) rfl ?_); refine goesL_ (some 136) rfl rfl Try.func20 (by kernel_rfl) rfl #[.slice A0 l0.length c0] rfl (by (try simp only [List.map_toArray, List.map_cons, List.map_nil]); first | done | rfl | (simp only [tb_wrap8]; done) | (simp only [tb_wrap8]; rfl) | (simp only [List.length_drop, List.length_take]; rfl)) ?_; (with_reducible refine (culletlaw10_twin.calls _ _ l0 t206 _ ?side1 ?side2 A83.out).mono ?_); (case side1 => repeat (first | exact (Kd.C_below HR0.out HB.out) | (with_reducible refine Kd.C_alloc ?_ _) | (with_reducible refine Kd.C_drewN ?_ _) | (with_reducible refine Kd.C_drew ?_))); (case side2 => exact HC0.out); rintro e w112 ⟨v207, rfl, ho0, hb⟩; refine ⟨_, rfl, ?_⟩; have n0_ := Aside0.mk (Kd.N_elder' (by (with_reducible repeat (first | apply Kd.N_alloc | apply Kd.N_drewN | apply Kd.N_drew)); exact HO198.out) (by first | exact Kd.N_base ho0 | exact Kd.S_base ho0) hb); have n1_ := Aside0.mk (Kd.N_elder' (by (with_reducible repeat (first | apply Kd.N_alloc | apply Kd.N_drewN | apply Kd.N_drew)); exact HO201.out) (by first | exact Kd.N_base ho0 | exact Kd.S_base ho0) hb); have n2_ := Aside0.mk (Kd.N_elder' (by (with_reducible repeat (first | apply Kd.N_alloc | apply Kd.N_drewN | apply Kd.N_drew)); exact HO205.out) (by first | exact Kd.N_base ho0 | exact Kd.S_base ho0) hb); have n3_ := Aside0.mk (Kd.N_lower (Kd.N_mono (ok' := fun k_ => some k_ ≠ (.slice Ao109 t196.length co109 : Value).ownBlock ∧ some k_ ≠ (.slice Ao110 t199.length co110 : Value).ownBlock ∧ some k_ ≠ (v204 : Value).ownBlock) (Kd.S_N (Kd.S_bound ho0)) (fun k_ hk_ => ⟨(Kd.fresh' (Kd.N_lt (by (with_reducible repeat (first | apply Kd.N_alloc | apply Kd.N_drewN | apply Kd.N_drew)); exact HO198.out)) k_ hk_.2.1), (Kd.fresh' (Kd.N_lt (by (with_reducible repeat (first | apply Kd.N_alloc | apply Kd.N_drewN | apply Kd.N_drew)); exact HO201.out)) k_ hk_.2.1), (Kd.fresh' (Kd.N_lt (by (with_reducible repeat (first | apply Kd.N_alloc | apply Kd.N_drewN | apply Kd.N_drew)); exact HO205.out)) k_ hk_.2.1)⟩)) (below_size (by repeat (first | (with_reducible first | exact HB.out | apply below_alloc | apply pw_below_drewN | apply below_drew1) | exact HB.out)))); have n4_ := Aside0.mk (below_step (by repeat (first | (with_reducible first | exact HB.out | apply below_alloc | apply pw_below_drewN | apply below_drew1) | exact HB.out)) hb); clear HO198; clear HO201; clear HO205; clear HB; have HO198 := n0_; have HO201 := n1_; have HO205 := n2_; have HO208 := n3_; have HB := n4_; clear n0_ n1_ n2_ n3_ n4_; (try clear hb); (try clear hb2); (try clear hk); (try clear hi); (try clear ho0); obtain ⟨Ao113, co113, eo113⟩ := Kd.N_slice HO208.out; subst eo113; obtain ⟨Ao114, co114, eo114⟩ := Kd.N_slice HO205.out; subst eo114) | ((with_reducible refine gate_callee (f := 34) rfl ?_); refine goesL_ (some 138) rfl rfl Try.func34 (by kernel_rfl) rfl #[.slice Ao113 t206.length co113, .slice Ao114 t202.length co114] rfl (by (try simp only [List.map_toArray, List.map_cons, List.map_nil]); first | done | rfl | (simp only [tb_wrap8]; done) | (simp only [tb_wrap8]; rfl) | (simp only [List.length_drop, List.length_take]; rfl)) ?_; (with_reducible refine (matrix_Solve.calls _ _ t206 _ _ t202 t209 t210 _ ?side1 ?side2 ?side3 ?side4 A84.out).mono ?_); (case side1 => repeat (first | exact (Kd.N_reads' HO208.out).2.2 | (with_reducible refine Kd.C_alloc ?_ _) | (with_reducible refine Kd.C_drewN ?_ _) | (with_reducible refine Kd.C_drew ?_))); (case side2 => exact (Kd.N_reads' HO208.out).2.1); (case side3 => repeat (first | exact (Kd.N_reads' HO205.out).2.2 | (with_reducible refine Kd.C_alloc ?_ _) | (with_reducible refine Kd.C_drewN ?_ _) | (with_reducible refine Kd.C_drew ?_))); (case side4 => exact (Kd.N_reads' HO205.out).2.1); rintro e w115 ⟨v211, rfl, ho0, hb⟩; refine ⟨_, rfl, ?_⟩; have n0_ := Aside0.mk (Kd.N_elder' (by (with_reducible repeat (first | apply Kd.N_alloc | apply Kd.N_drewN | apply Kd.N_drew)); exact HO198.out) (by first | exact Kd.N_base ho0 | exact Kd.S_base ho0) hb); have n1_ := Aside0.mk (Kd.N_elder' (by (with_reducible repeat (first | apply Kd.N_alloc | apply Kd.N_drewN | apply Kd.N_drew)); exact HO201.out) (by first | exact Kd.N_base ho0 | exact Kd.S_base ho0) hb); have n2_ := Aside0.mk (Kd.N_elder' (by (with_reducible repeat (first | apply Kd.N_alloc | apply Kd.N_drewN | apply Kd.N_drew)); exact HO205.out) (by first | exact Kd.N_base ho0 | exact Kd.S_base ho0) hb); have n3_ := Aside0.mk (Kd.N_elder' (by (with_reducible repeat (first | apply Kd.N_alloc | apply Kd.N_drewN | apply Kd.N_drew)); exact HO208.out) (by first | exact Kd.N_base ho0 | exact Kd.S_base ho0) hb); have n4_ := Aside0.mk (Kd.N_lower (Kd.N_mono (ok' := fun k_ => some k_ ≠ (.slice Ao109 t196.length co109 : Value).ownBlock ∧ some k_ ≠ (.slice Ao110 t199.length co110 : Value).ownBlock ∧ some k_ ≠ (.slice Ao114 t202.length co114 : Value).ownBlock ∧ some k_ ≠ (.slice Ao113 t206.length co113 : Value).ownBlock) (Kd.S_N (Kd.S_bound ho0)) (fun k_ hk_ => ⟨(Kd.fresh' (Kd.N_lt (by (with_reducible repeat (first | apply Kd.N_alloc | apply Kd.N_drewN | apply Kd.N_drew)); exact HO198.out)) k_ hk_.2.1), (Kd.fresh' (Kd.N_lt (by (with_reducible repeat (first | apply Kd.N_alloc | apply Kd.N_drewN | apply Kd.N_drew)); exact HO201.out)) k_ hk_.2.1), (Kd.fresh' (Kd.N_lt (by (with_reducible repeat (first | apply Kd.N_alloc | apply Kd.N_drewN | apply Kd.N_drew)); exact HO205.out)) k_ hk_.2.1), (Kd.fresh' (Kd.N_lt (by (with_reducible repeat (first | apply Kd.N_alloc | apply Kd.N_drewN | apply Kd.N_drew)); exact HO208.out)) k_ hk_.2.1)⟩)) (below_size (by repeat (first | (with_reducible first | exact HB.out | apply below_alloc | apply pw_below_drewN | apply below_drew1) | exact HB.out)))); have n5_ := Aside0.mk (below_step (by repeat (first | (with_reducible first | exact HB.out | apply below_alloc | apply pw_below_drewN | apply below_drew1) | exact HB.out)) hb); clear HO198; clear HO201; clear HO205; clear HO208; clear HB; have HO198 := n0_; have HO201 := n1_; have HO205 := n2_; have HO208 := n3_; have HO212 := n4_; have HB := n5_; clear n0_ n1_ n2_ n3_ n4_ n5_; (try clear hb); (try clear hb2); (try clear hk); (try clear hi); (try clear ho0)))
                                  go_ret
                                  exact ⟨by first | rfl | (simp [errW_none, errW_some] <;> rfl) | (simp [*, errW_none, errW_some] <;> rfl), by repeat (first | (with_reducible first | exact HB.out | apply below_alloc | apply pw_below_drewN | apply below_drew1) | exact HB.out)⟩
                              · rw [if_neg c79] at H
                                have c79b0 : (t195 == t160) = false := beq_eq_false_iff_ne.mpr c79
                                have c79b1 : (t195 != t160) = true := bne_iff_ne.mpr c79
                                obtain rfl := Option.some.inj H
                                go_wp2_with (first | ((with_reducible refine gate_callee (f := 19) rfl ?_); refine goesL_ (some 123) rfl rfl Try.func19 (by kernel_rfl) rfl #[.slice A1 l1.length c1] rfl (by (try simp only [List.map_toArray, List.map_cons, List.map_nil]); first | done | rfl | (simp only [tb_wrap8]; done) | (simp only [tb_wrap8]; rfl) | (simp only [List.length_drop, List.length_take]; rfl)) ?_; (with_reducible refine (culletlaw10_side.calls kj56 _ _ l1 t195 _ ?side1 ?side2 A78.out).mono ?_); (case side1 => repeat (first | exact (Kd.C_below HR1.out HB.out) | (with_reducible refine Kd.C_alloc ?_ _) | (with_reducible refine Kd.C_drewN ?_ _) | (with_reducible refine Kd.C_drew ?_))); (case side2 => exact HC1.out); rintro e w' ⟨rfl, ⟨nd, rfl⟩⟩; refine ⟨_, rfl, ?_⟩))
                                go_ret
                                exact ⟨by first | rfl | (simp [errW_none, errW_some] <;> rfl) | (simp [*, errW_none, errW_some] <;> rfl), by repeat (first | (with_reducible first | exact HB.out | apply below_alloc | apply pw_below_drewN | apply below_drew1) | exact HB.out)⟩
              · rw [if_neg c30] at H
                have c30b0 : (t166 == 0) = false := beq_eq_false_iff_ne.mpr c30
                have c30b1 : (t166 != 0) = true := bne_iff_ne.mpr c30
                obtain rfl := Option.some.inj H
                go_wp2_with (first | ((with_reducible refine gate_callee (f := 20) rfl ?_); refine goesL_ (some 49) rfl rfl Try.func20 (by kernel_rfl) rfl #[.slice A0 l0.length c0] rfl (by (try simp only [List.map_toArray, List.map_cons, List.map_nil]); first | done | rfl | (simp only [tb_wrap8]; done) | (simp only [tb_wrap8]; rfl) | (simp only [List.length_drop, List.length_take]; rfl)) ?_; (with_reducible refine (culletlaw10_twin.calls _ _ l0 t162 _ ?side1 ?side2 A28.out).mono ?_); (case side1 => repeat (first | exact (Kd.C_below HR0.out HB.out) | (with_reducible refine Kd.C_alloc ?_ _) | (with_reducible refine Kd.C_drewN ?_ _) | (with_reducible refine Kd.C_drew ?_))); (case side2 => exact HC0.out); rintro e w116 ⟨v163, rfl, ho0, hb⟩; refine ⟨_, rfl, ?_⟩; have n0_ := Aside0.mk (Kd.N_lower (Kd.N_mono (ok' := fun k_ => True) (Kd.S_N (Kd.S_bound ho0)) (fun k_ hk_ => trivial)) (below_size (by repeat (first | (with_reducible first | exact HB.out | apply below_alloc | apply pw_below_drewN | apply below_drew1) | exact HB.out)))); have n1_ := Aside0.mk (below_step (by repeat (first | (with_reducible first | exact HB.out | apply below_alloc | apply pw_below_drewN | apply below_drew1) | exact HB.out)) hb); clear HB; have HO164 := n0_; have HB := n1_; clear n0_ n1_; (try clear hb); (try clear hb2); (try clear hk); (try clear hi); (try clear ho0); obtain ⟨Ao117, co117, eo117⟩ := Kd.N_slice HO164.out; subst eo117) | ((with_reducible refine gate_callee (f := 18) rfl ?_); refine goesL_ (some 50) rfl rfl Try.func18 (by kernel_rfl) rfl #[.slice Ao117 t162.length co117] rfl (by (try simp only [List.map_toArray, List.map_cons, List.map_nil]); first | done | rfl | (simp only [tb_wrap8]; done) | (simp only [tb_wrap8]; rfl) | (simp only [List.length_drop, List.length_take]; rfl)) ?_; (with_reducible refine (matrix_Det.calls _ _ t162 t165 t166 _ ?side1 ?side2 A29.out).mono ?_); (case side1 => repeat (first | exact (Kd.N_reads' HO164.out).2.2 | (with_reducible refine Kd.C_alloc ?_ _) | (with_reducible refine Kd.C_drewN ?_ _) | (with_reducible refine Kd.C_drew ?_))); (case side2 => exact (Kd.N_reads' HO164.out).2.1); rintro e w118 ⟨rfl, hb⟩; refine ⟨_, rfl, ?_⟩; have n0_ := Aside0.mk (Kd.N_below (by (with_reducible repeat (first | apply Kd.N_alloc | apply Kd.N_drewN | apply Kd.N_drew)); exact HO164.out) hb); have n1_ := Aside0.mk (below_step (by repeat (first | (with_reducible first | exact HB.out | apply below_alloc | apply pw_below_drewN | apply below_drew1) | exact HB.out)) hb); clear HO164; clear HB; have HO164 := n0_; have HB := n1_; clear n0_ n1_; (try clear hb); (try clear hb2); (try clear hk); (try clear hi)))
                go_ret
                exact ⟨by first | rfl | (simp [errW_none, errW_some] <;> rfl) | (simp [*, errW_none, errW_some] <;> rfl), by repeat (first | (with_reducible first | exact HB.out | apply below_alloc | apply pw_below_drewN | apply below_drew1) | exact HB.out)⟩
/-- THE ONE PURE STATEMENT of culletlaw10_MatrixInverse. -/
def culletlaw10_MatrixInverse.Pure : Prop := ∀ (l0 : List (List Int)) (l1 : List (List Int)), (fun l : List (List Int) => l.length * 24 ≤ 140737488351232 ∧ ∀ x ∈ l, (fun l : List Int => l.length * 1 ≤ 140737488351232 ∧ ∀ x ∈ l, (fun x : Int => (Lit.int .u8 x).wf = true) x) x) l0 → (fun l : List (List Int) => l.length * 24 ≤ 140737488351232 ∧ ∀ x ∈ l, (fun l : List Int => l.length * 1 ≤ 140737488351232 ∧ ∀ x ∈ l, (fun x : Int => (Lit.int .u8 x).wf = true) x) x) l1 → ∃ k, culletlaw10_MatrixInverse.f k l0 l1 = some true
theorem culletlaw10_MatrixInverse.walk (P : culletlaw10_MatrixInverse.Pure) (w : World) (l0 : List (List Int)) (A0_ : Option Addr) (c0_ : Nat) (l1 : List (List Int)) (A1_ : Option Addr) (c1_ : Nat) (hr0 : Kd.C (Kd.slice 5 (Kd.int .u8)) w A0_ l0.length l0) (hc0 : l0.length ≤ c0_) (hr1 : Kd.C (Kd.slice 5 (Kd.int .u8)) w A1_ l1.length l1) (hc1 : l1.length ≤ c1_) (w0 : (fun l : List (List Int) => l.length * 24 ≤ 140737488351232 ∧ ∀ x ∈ l, (fun l : List Int => l.length * 1 ≤ 140737488351232 ∧ ∀ x ∈ l, (fun x : Int => (Lit.int .u8 x).wf = true) x) x) l0) (w1 : (fun l : List (List Int) => l.length * 24 ≤ 140737488351232 ∧ ∀ x ∈ l, (fun l : List Int => l.length * 1 ≤ 140737488351232 ∧ ∀ x ∈ l, (fun x : Int => (Lit.int .u8 x).wf = true) x) x) l1) :
    Calls Try.prog 8 #[.slice A0_ l0.length c0_, .slice A1_ l1.length c1_] w fun e w' => e = .returned (.bool true) ∧ Below w.heap.size w w' := by
  obtain ⟨k, h⟩ := P l0 l1 w0 w1
  refine (culletlaw10_MatrixInverse.calls k A0_ c0_ l0 A1_ c1_ l1 true w hr0 hc0 hr1 hc1 h).mono ?_
  rintro e w' ⟨rfl, hd⟩
  exact ⟨rfl, hd⟩

end Go.Proofs.Ytidogckochpbgaa.Q
