import Derived.Test.YtkdoilmfchlpdaaZ4
import Derived.Test.YtkdoilmfchlpdaaZ5
section
-- Printed for this claim by mp.py, a program of its prover, through the kit's print. Lean checks it.
namespace Go.Proofs.Ytkdoilmfchlpdaa.A
open Go.RowKit Go.Proofs.YtkdoilmfchlpdaaW.PrintWords Go.Proofs.YtkdoilmfchlpdaaW.PrintLast Go.Proofs.YtkdoilmfchlpdaaW.PrintMore
attribute [local go_sem] max2_int min2_int max_two min_two max_three min_three max_four min_four   -- for this text's walks alone
set_option linter.unusedVariables false
set_option linter.unusedSimpArgs false

/-! ### culletref11_Row: function 59 -/
mutual
def culletref11_Row.l0 : Nat → Int → Int → List Int → Int → List Int → Int → Int → Option (List Int)
 | 0, _, _, _, _, _, _, _ => none
 | k + 1, x0, x1, x2, x3, x9, x10, x12 => if x12 < x1 then (if 0 ≤ x12 then (if x12 < (x2.length : Int) then ((culletref11_weight.f k x0 x1 (rd x2 x12)).bind fun t217 => ((culletref02_Mul.f k t217 x10).bind fun t218 => (culletref11_Row.l1 k x0 x1 x2 x3 x9 x10 x12 t218 1 0))) else (none)) else (none)) else (some x9)
def culletref11_Row.l1 : Nat → Int → Int → List Int → Int → List Int → Int → Int → Int → Int → Int → Option (List Int)
 | 0, _, _, _, _, _, _, _, _, _, _ => none
 | k + 1, x0, x1, x2, x3, x9, x10, x12, x13, x14, x15 => if x15 < x1 then (if x15 = x12 then (culletref11_Row.l1 k x0 x1 x2 x3 x9 x10 x12 x13 x14 (wrap64 (x15 + 1))) else (if 0 ≤ x15 then (if x15 < (x2.length : Int) then ((culletref02_Mul.f k x13 (Go.bits .xor .u8 ((x3) % 256) ((rd x2 x15) % 256))).bind fun t223 => (if 0 ≤ x12 then (if x12 < (x2.length : Int) then ((culletref02_Mul.f k x14 (Go.bits .xor .u8 ((rd x2 x12) % 256) ((rd x2 x15) % 256))).bind fun t226 => (culletref11_Row.l1 k x0 x1 x2 x3 x9 x10 x12 t223 t226 (wrap64 (x15 + 1)))) else (none)) else (none))) else (none)) else (none))) else ((culletref02_Div.f k x13 x14).bind fun bt219 => (if 0 ≤ x12 then (if x12 < (x9.length : Int) then (culletref11_Row.l0 k x0 x1 x2 x3 (x9.set (x12 : Int).toNat bt219.1) x10 (wrap64 (x12 + 1))) else (none)) else (none)))
end
def culletref11_Row.f (k : Nat) (a0 : Int) (a1 : Int) (l2 : List Int) (a3 : Int) : Option (List Int) := if 0 ≤ a1 then (if (a1 : Int).toNat ≤ 281474976710656 then ((culletref11_weight.f k a0 a1 a3).bind fun t213 => ((culletref02_Inv.f k t213).bind fun bt214 => (culletref11_Row.l0 k a0 a1 l2 a3 (List.replicate (a1 : Int).toNat 0) bt214.1 0))) else (none)) else (none)
theorem culletref11_Row.mono_l : ∀ k, (∀ y0 y1 y2 y3 y4 y5 y6, LeO (culletref11_Row.l0 k y0 y1 y2 y3 y4 y5 y6) (culletref11_Row.l0 (k + 1) y0 y1 y2 y3 y4 y5 y6)) ∧ (∀ y0 y1 y2 y3 y4 y5 y6 y7 y8 y9, LeO (culletref11_Row.l1 k y0 y1 y2 y3 y4 y5 y6 y7 y8 y9) (culletref11_Row.l1 (k + 1) y0 y1 y2 y3 y4 y5 y6 y7 y8 y9))
 | 0 => ⟨fun _ _ _ _ _ _ _ r h => by simp [culletref11_Row.l0] at h, fun _ _ _ _ _ _ _ _ _ _ r h => by simp [culletref11_Row.l1] at h⟩
 | k + 1 => by
  obtain ⟨ih0, ih1⟩ := culletref11_Row.mono_l k
  refine ⟨?_, ?_⟩
  ·intro y0 y1 y2 y3 y4 y5 y6
   unfold culletref11_Row.l0
   repeat' first
   | (with_reducible exact ih0 _ _ _ _ _ _ _)
   | (with_reducible exact ih1 _ _ _ _ _ _ _ _ _ _)
   | (with_reducible exact culletref02_Div.mono _ _ _)
   | (with_reducible exact culletref02_Inv.mono _ _)
   | (with_reducible exact culletref02_Mul.mono _ _ _)
   | (with_reducible exact culletref11_weight.mono _ _ _ _)
   | (with_reducible exact LeO.refl _)
   | (with_reducible exact LeO.none _)
   | (with_reducible refine LeO.ite ?_ ?_)
   | (with_reducible refine LeO.bind ?_ (fun _ => ?_))
   | exact ih0 _ _ _ _ _ _ _
   | exact ih1 _ _ _ _ _ _ _ _ _ _
   | exact culletref02_Div.mono _ _ _
   | exact culletref02_Inv.mono _ _
   | exact culletref02_Mul.mono _ _ _
   | exact culletref11_weight.mono _ _ _ _
   | exact LeO.none _
   | refine LeO.ite ?_ ?_
   | refine LeO.bind ?_ (fun _ => ?_)
  ·intro y0 y1 y2 y3 y4 y5 y6 y7 y8 y9
   unfold culletref11_Row.l1
   repeat' first
   | (with_reducible exact ih0 _ _ _ _ _ _ _)
   | (with_reducible exact ih1 _ _ _ _ _ _ _ _ _ _)
   | (with_reducible exact culletref02_Div.mono _ _ _)
   | (with_reducible exact culletref02_Inv.mono _ _)
   | (with_reducible exact culletref02_Mul.mono _ _ _)
   | (with_reducible exact culletref11_weight.mono _ _ _ _)
   | (with_reducible exact LeO.refl _)
   | (with_reducible exact LeO.none _)
   | (with_reducible refine LeO.ite ?_ ?_)
   | (with_reducible refine LeO.bind ?_ (fun _ => ?_))
   | exact ih0 _ _ _ _ _ _ _
   | exact ih1 _ _ _ _ _ _ _ _ _ _
   | exact culletref02_Div.mono _ _ _
   | exact culletref02_Inv.mono _ _
   | exact culletref02_Mul.mono _ _ _
   | exact culletref11_weight.mono _ _ _ _
   | exact LeO.none _
   | refine LeO.ite ?_ ?_
   | refine LeO.bind ?_ (fun _ => ?_)
theorem culletref11_Row.mono : ∀ a0 a1 a2 a3 k, LeO (culletref11_Row.f k a0 a1 a2 a3) (culletref11_Row.f (k + 1) a0 a1 a2 a3) := by
 intro a0 a1 a2 a3 k
 obtain ⟨ih0, ih1⟩ := culletref11_Row.mono_l k
 unfold culletref11_Row.f
 repeat' first
   | (with_reducible exact ih0 _ _ _ _ _ _ _)
   | (with_reducible exact ih1 _ _ _ _ _ _ _ _ _ _)
   | (with_reducible exact culletref02_Div.mono _ _ _)
   | (with_reducible exact culletref02_Inv.mono _ _)
   | (with_reducible exact culletref02_Mul.mono _ _ _)
   | (with_reducible exact culletref11_weight.mono _ _ _ _)
   | (with_reducible exact LeO.refl _)
   | (with_reducible exact LeO.none _)
   | (with_reducible refine LeO.ite ?_ ?_)
   | (with_reducible refine LeO.bind ?_ (fun _ => ?_))
   | exact ih0 _ _ _ _ _ _ _
   | exact ih1 _ _ _ _ _ _ _ _ _ _
   | exact culletref02_Div.mono _ _ _
   | exact culletref02_Inv.mono _ _
   | exact culletref02_Mul.mono _ _ _
   | exact culletref11_weight.mono _ _ _ _
   | exact LeO.none _
   | refine LeO.ite ?_ ?_
   | refine LeO.bind ?_ (fun _ => ?_)
set_option maxHeartbeats 8000000 in
set_option maxRecDepth 100000 in
theorem culletref11_Row.calls (k : Nat) (a0 : Int) (a1 : Int) (A2 : Option Addr) (c2 : Nat) (l2 : List Int) (a3 : Int) (r : List Int) (w : World) (hr2 : Kd.C (Kd.int .i64) w A2 l2.length l2) (hc2 : l2.length ≤ c2) (h : culletref11_Row.f k a0 a1 l2 a3 = some r) :
  Calls Try.prog 59 #[.int .i64 a0, .int .i64 a1, .slice A2 l2.length c2, .int .i64 a3] w fun e w' => ∃ v0_ : Value, e = .returned (v0_) ∧ Kd.R (Kd.int .u8) 5 w' w.heap.size (fun _ => True) v0_ r ∧ Below w.heap.size w w' := by
 have HR2 := Aside0.mk hr2
 have HC2 := Aside0.mk hc2
 clear hr2 hc2
 have HB := Aside0.mk (Below.refl w.heap.size w)
 have H : (if 0 ≤ a1 then (if (a1 : Int).toNat ≤ 281474976710656 then ((culletref11_weight.f k a0 a1 a3).bind fun t213 => ((culletref02_Inv.f k t213).bind fun bt214 => (culletref11_Row.l0 k a0 a1 l2 a3 (List.replicate (a1 : Int).toNat 0) bt214.1 0))) else (none)) else (none)) = some r := h
 clear h
 by_cases c5 : 0 ≤ a1
 ·rw [if_pos c5] at H
  have c5b0 := eq_true c5
  have c5b1 : decide (0 ≤ a1) = true := decide_eq_true c5
  clear c5
  by_cases c6 : (a1 : Int).toNat ≤ 281474976710656
  ·rw [if_pos c6] at H
   have c6b0 := eq_true c6
   have c6b1 : decide ((a1 : Int).toNat ≤ 281474976710656) = true := decide_eq_true c6
   clear c6
   obtain ⟨y210, hy210⟩ : ∃ y_ : List Int, y_ = (List.replicate (a1 : Int).toNat 0) := ⟨_, rfl⟩
   replace H : ((culletref11_weight.f k a0 a1 a3).bind fun t213 => ((culletref02_Inv.f k t213).bind fun bt214 => (culletref11_Row.l0 k a0 a1 l2 a3 y210 bt214.1 0))) = some r := by first | (rw [hy210]; with_reducible exact H) | (have H2_ := (Option.bind_some _ _).symm.trans H; rw [hy210]; with_reducible exact H2_) | (have H2_ := (Option.bind_some _ _).symm.trans H; with_reducible exact H2_) | with_reducible exact H | (rw [hy210]; exact H) | exact H
   have Ny210 := Aside0.mk hy210
   clear hy210
   replace H := Option.bind_eq_some_iff.mp H
   obtain ⟨t213, A70, H⟩ := H
   replace H : ((culletref02_Inv.f k t213).bind fun bt214 => (culletref11_Row.l0 k a0 a1 l2 a3 y210 bt214.1 0)) = some r := H
   have A7 := Aside0.mk A70
   clear A70
   replace H := Option.bind_eq_some_iff.mp H
   obtain ⟨⟨t214, t215⟩, A80, H⟩ := H
   replace H : (culletref11_Row.l0 k a0 a1 l2 a3 y210 t214 0) = some r := H
   have A8 := Aside0.mk A80
   clear A80
   have H' := Aside0.mk H
   clear H
   go_enter Try.func59, Try.ntmps59
   go_wp2_with (first | ((with_reducible refine gate_dst (N := 17) rfl ?_); refine Kd.R_make (Kd.int .u8) _ 5 rfl (N := 17) rfl 22 _ _ rfl a1 rfl rfl Try.underlying22 (.int .u8 0) 1 info5 rfl (by decide) (by omega) 0 (ok := fun _ => True) (okp := fun _ => True) rfl (fun _ hk => hk) trivial (of_decide_eq_true (by first | (with_reducible assumption) | assumption)) (Nat.le_trans (Nat.mul_le_mul_right _ (of_decide_eq_true (by first | (with_reducible assumption) | assumption) : a1.toNat ≤ 281474976710656)) (by omega)) (Below.refl _ _) (Nat.le_refl _) ?_; intro v211 w9 ho10 hb hg_ hnew_; clear hg_ hnew_; (first | rw [← Ny210.out] at ho10 | (simp only [Int.reduceToNat] at ho10; rw [← Ny210.out] at ho10)); have n0_ := Aside0.mk (Kd.R_lower ho10 (below_size (by repeat (first | (with_reducible first | exact HB.out | apply below_alloc | apply pw_below_drewN | apply below_drew1) | exact HB.out)))); have n1_ := Aside0.mk (below_step (by repeat (first | (with_reducible first | exact HB.out | apply below_alloc | apply pw_below_drewN | apply below_drew1) | exact HB.out)) hb); clear HB; have HO212 := n0_; have HB := n1_; clear n0_ n1_; clear hb ho10) | (go_at_call 80; (with_reducible refine (culletref11_weight.calls k a0 a1 a3 t213 _ A7.out).mono ?_); rintro e w' ⟨rfl, ⟨nd, rfl⟩⟩; (try first | exact ⟨rfl, _, World.drewN_drewN _ _ _⟩ | exact ⟨rfl, _, Eq.trans (World.drewN_drewN _ _ _) (congrArg (World.drewN _) (Nat.add_assoc _ _ _))⟩)) | (go_at_call 79; (with_reducible refine (culletref02_Inv.calls k t213 t214 t215 _ A8.out).mono ?_); rintro e w' ⟨rfl, ⟨nd, rfl⟩⟩; (try first | exact ⟨rfl, _, World.drewN_drewN _ _ _⟩ | exact ⟨rfl, _, Eq.trans (World.drewN_drewN _ _ _) (congrArg (World.drewN _) (Nat.add_assoc _ _ _))⟩)))
   repeat (go_quiet (first | ((with_reducible refine gate_dst (N := 17) rfl ?_); refine Kd.R_make (Kd.int .u8) _ 5 rfl (N := 17) rfl 22 _ _ rfl a1 rfl rfl Try.underlying22 (.int .u8 0) 1 info5 rfl (by decide) (by omega) 0 (ok := fun _ => True) (okp := fun _ => True) rfl (fun _ hk => hk) trivial (of_decide_eq_true (by first | (with_reducible assumption) | assumption)) (Nat.le_trans (Nat.mul_le_mul_right _ (of_decide_eq_true (by first | (with_reducible assumption) | assumption) : a1.toNat ≤ 281474976710656)) (by omega)) (Below.refl _ _) (Nat.le_refl _) ?_; intro v211 w9 ho10 hb hg_ hnew_; clear hg_ hnew_; (first | rw [← Ny210.out] at ho10 | (simp only [Int.reduceToNat] at ho10; rw [← Ny210.out] at ho10)); have n0_ := Aside0.mk (Kd.R_lower ho10 (below_size (by repeat (first | (with_reducible first | exact HB.out | apply below_alloc | apply pw_below_drewN | apply below_drew1) | exact HB.out)))); have n1_ := Aside0.mk (below_step (by repeat (first | (with_reducible first | exact HB.out | apply below_alloc | apply pw_below_drewN | apply below_drew1) | exact HB.out)) hb); clear HB; have HO212 := n0_; have HB := n1_; clear n0_ n1_; clear hb ho10) | (go_at_call 80; (with_reducible refine (culletref11_weight.calls k a0 a1 a3 t213 _ A7.out).mono ?_); rintro e w' ⟨rfl, ⟨nd, rfl⟩⟩; (try first | exact ⟨rfl, _, World.drewN_drewN _ _ _⟩ | exact ⟨rfl, _, Eq.trans (World.drewN_drewN _ _ _) (congrArg (World.drewN _) (Nat.add_assoc _ _ _))⟩)) | (go_at_call 79; (with_reducible refine (culletref02_Inv.calls k t213 t214 t215 _ A8.out).mono ?_); rintro e w' ⟨rfl, ⟨nd, rfl⟩⟩; (try first | exact ⟨rfl, _, World.drewN_drewN _ _ _⟩ | exact ⟨rfl, _, Eq.trans (World.drewN_drewN _ _ _) (congrArg (World.drewN _) (Nat.add_assoc _ _ _))⟩))); try go_wp2_with (first | ((with_reducible refine gate_dst (N := 17) rfl ?_); refine Kd.R_make (Kd.int .u8) _ 5 rfl (N := 17) rfl 22 _ _ rfl a1 rfl rfl Try.underlying22 (.int .u8 0) 1 info5 rfl (by decide) (by omega) 0 (ok := fun _ => True) (okp := fun _ => True) rfl (fun _ hk => hk) trivial (of_decide_eq_true (by first | (with_reducible assumption) | assumption)) (Nat.le_trans (Nat.mul_le_mul_right _ (of_decide_eq_true (by first | (with_reducible assumption) | assumption) : a1.toNat ≤ 281474976710656)) (by omega)) (Below.refl _ _) (Nat.le_refl _) ?_; intro v211 w9 ho10 hb hg_ hnew_; clear hg_ hnew_; (first | rw [← Ny210.out] at ho10 | (simp only [Int.reduceToNat] at ho10; rw [← Ny210.out] at ho10)); have n0_ := Aside0.mk (Kd.R_lower ho10 (below_size (by repeat (first | (with_reducible first | exact HB.out | apply below_alloc | apply pw_below_drewN | apply below_drew1) | exact HB.out)))); have n1_ := Aside0.mk (below_step (by repeat (first | (with_reducible first | exact HB.out | apply below_alloc | apply pw_below_drewN | apply below_drew1) | exact HB.out)) hb); clear HB; have HO212 := n0_; have HB := n1_; clear n0_ n1_; clear hb ho10) | (go_at_call 80; (with_reducible refine (culletref11_weight.calls k a0 a1 a3 t213 _ A7.out).mono ?_); rintro e w' ⟨rfl, ⟨nd, rfl⟩⟩; (try first | exact ⟨rfl, _, World.drewN_drewN _ _ _⟩ | exact ⟨rfl, _, Eq.trans (World.drewN_drewN _ _ _) (congrArg (World.drewN _) (Nat.add_assoc _ _ _))⟩)) | (go_at_call 79; (with_reducible refine (culletref02_Inv.calls k t213 t214 t215 _ A8.out).mono ?_); rintro e w' ⟨rfl, ⟨nd, rfl⟩⟩; (try first | exact ⟨rfl, _, World.drewN_drewN _ _ _⟩ | exact ⟨rfl, _, Eq.trans (World.drewN_drewN _ _ _) (congrArg (World.drewN _) (Nat.add_assoc _ _ _))⟩))))
   go_loopg [12] k (fun kq v12 w' => ∃ (x9_1 : List Int) (x12_1 : Int), v12 = .int .i64 x12_1 ∧ Aside0 (culletref11_Row.l0 kq a0 a1 l2 a3 x9_1 t214 x12_1 = some r) ∧ Aside0 (kq ≤ k) ∧ Aside0 (Kd.R (Kd.int .u8) 5 w' w.heap.size (fun _ => True) v211 x9_1) ∧ Aside0 (Below w.heap.size w w'))
   case atStart => exact ⟨(y210), (0), (by first | rfl | (simp; done) | (simp [*]; done)), H', ⟨Nat.le_refl _⟩, ⟨by (with_reducible repeat (first | apply Kd.R_alloc | apply Kd.R_drewN | apply Kd.R_drew)); exact HO212.out⟩, ⟨by repeat (first | (with_reducible first | exact HB.out | apply below_alloc | apply pw_below_drewN | apply below_drew1) | exact HB.out)⟩⟩
   case round =>
    clear H'
    try clear c2
    try clear p2
    try clear c5
    try clear c5b0
    try clear c5b1
    try clear c6
    try clear c6b0
    try clear c6b1
    obtain ⟨x9_1, x12_1, rfl, HA, HK1, HO_9, HB⟩ := hrel
    cases gk with
    | zero => exact absurd HA.out (by simp [culletref11_Row.l0])
    | succ k1 =>
     have H := HA.out
     clear HA
     simp only [culletref11_Row.l0] at H
     by_cases c11 : x12_1 < a1
     ·rw [if_pos c11] at H
      have c11b0 : decide (x12_1 < a1) = true := decide_eq_true c11
      clear c11
      by_cases c12 : 0 ≤ x12_1
      ·rw [if_pos c12] at H
       have c12b0 : decide (0 ≤ x12_1) = true := decide_eq_true c12
       clear c12
       by_cases c13 : x12_1 < (l2.length : Int)
       ·rw [if_pos c13] at H
        have c13b0 : decide (x12_1 < (l2.length : Int)) = true := decide_eq_true c13
        clear c13
        replace H := Option.bind_eq_some_iff.mp H
        obtain ⟨t217, A140, H⟩ := H
        replace H : ((culletref02_Mul.f k1 t217 t214).bind fun t218 => (culletref11_Row.l1 k1 a0 a1 l2 a3 x9_1 t214 x12_1 t218 1 0)) = some r := H
        have A14 := Aside0.mk A140
        clear A140
        replace H := Option.bind_eq_some_iff.mp H
        obtain ⟨t218, A150, H⟩ := H
        replace H : (culletref11_Row.l1 k1 a0 a1 l2 a3 x9_1 t214 x12_1 t218 1 0) = some r := H
        have A15 := Aside0.mk A150
        clear A150
        have H' := Aside0.mk H
        clear H
        have p216 : 0 ≤ (x12_1 : Int) := of_decide_eq_true (by first | (with_reducible assumption) | assumption)
        have q216 : x12_1 < (l2.length : Int) := of_decide_eq_true (by first | (with_reducible assumption) | assumption)
        obtain ⟨ad216, e216, hx216_0⟩ := Kd.at_int HR2.out x12_1 p216 q216
        cases e216
        replace hx216_0 := (HB.out.cell (World.block_lt_of_cell? w _ hx216_0)).trans hx216_0
        replace p216 := eq_true p216
        replace q216 := eq_true q216
        go_wp2_with (first | (go_at_call 80; (with_reducible refine (culletref11_weight.calls k1 a0 a1 (rd l2 x12_1) t217 _ A14.out).mono ?_); rintro e w' ⟨rfl, ⟨nd, rfl⟩⟩; (try first | exact ⟨rfl, _, World.drewN_drewN _ _ _⟩ | exact ⟨rfl, _, Eq.trans (World.drewN_drewN _ _ _) (congrArg (World.drewN _) (Nat.add_assoc _ _ _))⟩)) | (go_at_call 81; (with_reducible refine (culletref02_Mul.calls k1 t217 t214 t218 _ A15.out).mono ?_); rintro e w' ⟨rfl, ⟨nd, rfl⟩⟩; (try first | exact ⟨rfl, _, World.drewN_drewN _ _ _⟩ | exact ⟨rfl, _, Eq.trans (World.drewN_drewN _ _ _) (congrArg (World.drewN _) (Nat.add_assoc _ _ _))⟩)))
        repeat (go_quiet (first | (go_at_call 80; (with_reducible refine (culletref11_weight.calls k1 a0 a1 (rd l2 x12_1) t217 _ A14.out).mono ?_); rintro e w' ⟨rfl, ⟨nd, rfl⟩⟩; (try first | exact ⟨rfl, _, World.drewN_drewN _ _ _⟩ | exact ⟨rfl, _, Eq.trans (World.drewN_drewN _ _ _) (congrArg (World.drewN _) (Nat.add_assoc _ _ _))⟩)) | (go_at_call 81; (with_reducible refine (culletref02_Mul.calls k1 t217 t214 t218 _ A15.out).mono ?_); rintro e w' ⟨rfl, ⟨nd, rfl⟩⟩; (try first | exact ⟨rfl, _, World.drewN_drewN _ _ _⟩ | exact ⟨rfl, _, Eq.trans (World.drewN_drewN _ _ _) (congrArg (World.drewN _) (Nat.add_assoc _ _ _))⟩))); try go_wp2_with (first | (go_at_call 80; (with_reducible refine (culletref11_weight.calls k1 a0 a1 (rd l2 x12_1) t217 _ A14.out).mono ?_); rintro e w' ⟨rfl, ⟨nd, rfl⟩⟩; (try first | exact ⟨rfl, _, World.drewN_drewN _ _ _⟩ | exact ⟨rfl, _, Eq.trans (World.drewN_drewN _ _ _) (congrArg (World.drewN _) (Nat.add_assoc _ _ _))⟩)) | (go_at_call 81; (with_reducible refine (culletref02_Mul.calls k1 t217 t214 t218 _ A15.out).mono ?_); rintro e w' ⟨rfl, ⟨nd, rfl⟩⟩; (try first | exact ⟨rfl, _, World.drewN_drewN _ _ _⟩ | exact ⟨rfl, _, Eq.trans (World.drewN_drewN _ _ _) (congrArg (World.drewN _) (Nat.add_assoc _ _ _))⟩))))
        go_loopg [13, 14, 15] k1 (fun kq v13 v14 v15 w' => ∃ (x13_2 : Int) (x14_2 : Int) (x15_2 : Int), v13 = .int .u8 x13_2 ∧ v14 = .int .u8 x14_2 ∧ v15 = .int .i64 x15_2 ∧ Aside0 (culletref11_Row.l1 kq a0 a1 l2 a3 x9_1 t214 x12_1 x13_2 x14_2 x15_2 = some r) ∧ Aside0 (kq ≤ k1) ∧ Aside0 (Kd.R (Kd.int .u8) 5 w' w.heap.size (fun _ => True) v211 x9_1) ∧ Aside0 (Below w.heap.size w w'))
        case atStart => exact ⟨(t218), (1), (0), (by first | rfl | (simp; done) | (simp [*]; done)), (by first | rfl | (simp; done) | (simp [*]; done)), (by first | rfl | (simp; done) | (simp [*]; done)), H', ⟨Nat.le_refl _⟩, ⟨by (with_reducible repeat (first | apply Kd.R_alloc | apply Kd.R_drewN | apply Kd.R_drew)); exact HO_9.out⟩, ⟨by repeat (first | (with_reducible first | exact HB.out | apply below_alloc | apply pw_below_drewN | apply below_drew1) | exact HB.out)⟩⟩
        case round =>
         clear H'
         try clear c1
         try clear c2
         try clear p2
         try clear q2
         try clear hx2
         try clear c5
         try clear c5b0
         try clear c5b1
         try clear c6
         try clear c6b0
         try clear c6b1
         try clear c11
         try clear c11b0
         try clear c12
         try clear c12b0
         try clear c13
         try clear c13b0
         try clear hx216_0
         try clear p2
         try clear p216
         try clear q216
         obtain ⟨x13_2, x14_2, x15_2, rfl, rfl, rfl, HA, HK2, HO_9, HB⟩ := hrel
         cases gk with
         | zero => exact absurd HA.out (by simp [culletref11_Row.l1])
         | succ k2 =>
          have H := HA.out
          clear HA
          simp only [culletref11_Row.l1] at H
          by_cases c16 : x15_2 < a1
          ·rw [if_pos c16] at H
           have c16b0 : decide (x15_2 < a1) = true := decide_eq_true c16
           clear c16
           by_cases c17 : x15_2 = x12_1
           ·rw [if_pos c17] at H
            have c17b0 : (x15_2 == x12_1) = true := beq_iff_eq.mpr c17
            have c17b1 : (x15_2 != x12_1) = false := bne_eq_false_iff_eq.mpr c17
            clear c17
            have H' := Aside0.mk H
            clear H
            go_wp2
            repeat (go_quiet (fail); try go_wp2)
            go_roundg k2
            case measure => have := HK1.out; have := HK2.out; omega
            case rel => exact ⟨(x13_2), (x14_2), (wrap64 (x15_2 + 1)), (by first | rfl | (simp; done) | (simp [*]; done)), (by first | rfl | (simp; done) | (simp [*]; done)), (by first | rfl | (simp; done) | (simp [*]; done)), H', ⟨by have := HK1.out; have := HK2.out; omega⟩, ⟨by (with_reducible repeat (first | apply Kd.R_alloc | apply Kd.R_drewN | apply Kd.R_drew)); exact HO_9.out⟩, ⟨by repeat (first | (with_reducible first | exact HB.out | apply below_alloc | apply pw_below_drewN | apply below_drew1) | exact HB.out)⟩⟩
           ·rw [if_neg c17] at H
            have c17b0 : (x15_2 == x12_1) = false := beq_eq_false_iff_ne.mpr c17
            have c17b1 : (x15_2 != x12_1) = true := bne_iff_ne.mpr c17
            by_cases c18 : 0 ≤ x15_2
            ·rw [if_pos c18] at H
             have c18b0 : decide (0 ≤ x15_2) = true := decide_eq_true c18
             clear c18
             by_cases c19 : x15_2 < (l2.length : Int)
             ·rw [if_pos c19] at H
              have c19b0 : decide (x15_2 < (l2.length : Int)) = true := decide_eq_true c19
              clear c19
              replace H := Option.bind_eq_some_iff.mp H
              obtain ⟨t223, A200, H⟩ := H
              replace H : (if 0 ≤ x12_1 then (if x12_1 < (l2.length : Int) then ((culletref02_Mul.f k2 x14_2 (Go.bits .xor .u8 ((rd l2 x12_1) % 256) ((rd l2 x15_2) % 256))).bind fun t226 => (culletref11_Row.l1 k2 a0 a1 l2 a3 x9_1 t214 x12_1 t223 t226 (wrap64 (x15_2 + 1)))) else (none)) else (none)) = some r := H
              have A20 := Aside0.mk A200
              clear A200
              by_cases c21 : 0 ≤ x12_1
              ·rw [if_pos c21] at H
               have c21b0 : decide (0 ≤ x12_1) = true := decide_eq_true c21
               clear c21
               by_cases c22 : x12_1 < (l2.length : Int)
               ·rw [if_pos c22] at H
                have c22b0 : decide (x12_1 < (l2.length : Int)) = true := decide_eq_true c22
                clear c22
                replace H := Option.bind_eq_some_iff.mp H
                obtain ⟨t226, A230, H⟩ := H
                replace H : (culletref11_Row.l1 k2 a0 a1 l2 a3 x9_1 t214 x12_1 t223 t226 (wrap64 (x15_2 + 1))) = some r := H
                have A23 := Aside0.mk A230
                clear A230
                have H' := Aside0.mk H
                clear H
                have p222 : 0 ≤ (x15_2 : Int) := of_decide_eq_true (by first | (with_reducible assumption) | assumption)
                have q222 : x15_2 < (l2.length : Int) := of_decide_eq_true (by first | (with_reducible assumption) | assumption)
                obtain ⟨ad222, e222, hx222_0⟩ := Kd.at_int HR2.out x15_2 p222 q222
                obtain rfl : ad216 = ad222 := (by injection e222)
                replace hx222_0 := (HB.out.cell (World.block_lt_of_cell? w _ hx222_0)).trans hx222_0
                replace p222 := eq_true p222
                replace q222 := eq_true q222
                go_wp2_with (first | (go_at_call 81; (with_reducible refine (culletref02_Mul.calls k2 x13_2 (Go.bits .xor .u8 ((a3) % 256) ((rd l2 x15_2) % 256)) t223 _ A20.out).mono ?_); rintro e w' ⟨rfl, ⟨nd, rfl⟩⟩; (try first | exact ⟨rfl, _, World.drewN_drewN _ _ _⟩ | exact ⟨rfl, _, Eq.trans (World.drewN_drewN _ _ _) (congrArg (World.drewN _) (Nat.add_assoc _ _ _))⟩); have p224 : 0 ≤ (x12_1 : Int) := of_decide_eq_true (by first | (with_reducible assumption) | assumption); have q224 : x12_1 < (l2.length : Int) := of_decide_eq_true (by first | (with_reducible assumption) | assumption); obtain ⟨ad224, e224, hx224_0⟩ := Kd.at_int HR2.out x12_1 p224 q224; obtain rfl : ad216 = ad224 := (by injection e224); replace hx224_0 := (HB.out.cell (World.block_lt_of_cell? w _ hx224_0)).trans hx224_0; replace p224 := eq_true p224; replace q224 := eq_true q224; have p225 : 0 ≤ (x15_2 : Int) := of_decide_eq_true (by first | (with_reducible assumption) | assumption); have q225 : x15_2 < (l2.length : Int) := of_decide_eq_true (by first | (with_reducible assumption) | assumption); obtain ⟨ad225, e225, hx225_0⟩ := Kd.at_int HR2.out x15_2 p225 q225; obtain rfl : ad216 = ad225 := (by injection e225); replace hx225_0 := (HB.out.cell (World.block_lt_of_cell? w _ hx225_0)).trans hx225_0; replace p225 := eq_true p225; replace q225 := eq_true q225) | (go_at_call 81; (with_reducible refine (culletref02_Mul.calls k2 x14_2 (Go.bits .xor .u8 ((rd l2 x12_1) % 256) ((rd l2 x15_2) % 256)) t226 _ A23.out).mono ?_); rintro e w' ⟨rfl, ⟨nd, rfl⟩⟩; (try first | exact ⟨rfl, _, World.drewN_drewN _ _ _⟩ | exact ⟨rfl, _, Eq.trans (World.drewN_drewN _ _ _) (congrArg (World.drewN _) (Nat.add_assoc _ _ _))⟩)))
                repeat (go_quiet (first | (go_at_call 81; (with_reducible refine (culletref02_Mul.calls k2 x13_2 (Go.bits .xor .u8 ((a3) % 256) ((rd l2 x15_2) % 256)) t223 _ A20.out).mono ?_); rintro e w' ⟨rfl, ⟨nd, rfl⟩⟩; (try first | exact ⟨rfl, _, World.drewN_drewN _ _ _⟩ | exact ⟨rfl, _, Eq.trans (World.drewN_drewN _ _ _) (congrArg (World.drewN _) (Nat.add_assoc _ _ _))⟩); have p224 : 0 ≤ (x12_1 : Int) := of_decide_eq_true (by first | (with_reducible assumption) | assumption); have q224 : x12_1 < (l2.length : Int) := of_decide_eq_true (by first | (with_reducible assumption) | assumption); obtain ⟨ad224, e224, hx224_0⟩ := Kd.at_int HR2.out x12_1 p224 q224; obtain rfl : ad216 = ad224 := (by injection e224); replace hx224_0 := (HB.out.cell (World.block_lt_of_cell? w _ hx224_0)).trans hx224_0; replace p224 := eq_true p224; replace q224 := eq_true q224; have p225 : 0 ≤ (x15_2 : Int) := of_decide_eq_true (by first | (with_reducible assumption) | assumption); have q225 : x15_2 < (l2.length : Int) := of_decide_eq_true (by first | (with_reducible assumption) | assumption); obtain ⟨ad225, e225, hx225_0⟩ := Kd.at_int HR2.out x15_2 p225 q225; obtain rfl : ad216 = ad225 := (by injection e225); replace hx225_0 := (HB.out.cell (World.block_lt_of_cell? w _ hx225_0)).trans hx225_0; replace p225 := eq_true p225; replace q225 := eq_true q225) | (go_at_call 81; (with_reducible refine (culletref02_Mul.calls k2 x14_2 (Go.bits .xor .u8 ((rd l2 x12_1) % 256) ((rd l2 x15_2) % 256)) t226 _ A23.out).mono ?_); rintro e w' ⟨rfl, ⟨nd, rfl⟩⟩; (try first | exact ⟨rfl, _, World.drewN_drewN _ _ _⟩ | exact ⟨rfl, _, Eq.trans (World.drewN_drewN _ _ _) (congrArg (World.drewN _) (Nat.add_assoc _ _ _))⟩))); try go_wp2_with (first | (go_at_call 81; (with_reducible refine (culletref02_Mul.calls k2 x13_2 (Go.bits .xor .u8 ((a3) % 256) ((rd l2 x15_2) % 256)) t223 _ A20.out).mono ?_); rintro e w' ⟨rfl, ⟨nd, rfl⟩⟩; (try first | exact ⟨rfl, _, World.drewN_drewN _ _ _⟩ | exact ⟨rfl, _, Eq.trans (World.drewN_drewN _ _ _) (congrArg (World.drewN _) (Nat.add_assoc _ _ _))⟩); have p224 : 0 ≤ (x12_1 : Int) := of_decide_eq_true (by first | (with_reducible assumption) | assumption); have q224 : x12_1 < (l2.length : Int) := of_decide_eq_true (by first | (with_reducible assumption) | assumption); obtain ⟨ad224, e224, hx224_0⟩ := Kd.at_int HR2.out x12_1 p224 q224; obtain rfl : ad216 = ad224 := (by injection e224); replace hx224_0 := (HB.out.cell (World.block_lt_of_cell? w _ hx224_0)).trans hx224_0; replace p224 := eq_true p224; replace q224 := eq_true q224; have p225 : 0 ≤ (x15_2 : Int) := of_decide_eq_true (by first | (with_reducible assumption) | assumption); have q225 : x15_2 < (l2.length : Int) := of_decide_eq_true (by first | (with_reducible assumption) | assumption); obtain ⟨ad225, e225, hx225_0⟩ := Kd.at_int HR2.out x15_2 p225 q225; obtain rfl : ad216 = ad225 := (by injection e225); replace hx225_0 := (HB.out.cell (World.block_lt_of_cell? w _ hx225_0)).trans hx225_0; replace p225 := eq_true p225; replace q225 := eq_true q225) | (go_at_call 81; (with_reducible refine (culletref02_Mul.calls k2 x14_2 (Go.bits .xor .u8 ((rd l2 x12_1) % 256) ((rd l2 x15_2) % 256)) t226 _ A23.out).mono ?_); rintro e w' ⟨rfl, ⟨nd, rfl⟩⟩; (try first | exact ⟨rfl, _, World.drewN_drewN _ _ _⟩ | exact ⟨rfl, _, Eq.trans (World.drewN_drewN _ _ _) (congrArg (World.drewN _) (Nat.add_assoc _ _ _))⟩))))
                go_roundg k2
                case measure => have := HK1.out; have := HK2.out; omega
                case rel => exact ⟨(t223), (t226), (wrap64 (x15_2 + 1)), (by first | rfl | (simp; done) | (simp [*]; done)), (by first | rfl | (simp; done) | (simp [*]; done)), (by first | rfl | (simp; done) | (simp [*]; done)), H', ⟨by have := HK1.out; have := HK2.out; omega⟩, ⟨by (with_reducible repeat (first | apply Kd.R_alloc | apply Kd.R_drewN | apply Kd.R_drew)); exact HO_9.out⟩, ⟨by repeat (first | (with_reducible first | exact HB.out | apply below_alloc | apply pw_below_drewN | apply below_drew1) | exact HB.out)⟩⟩
               ·rw [if_neg c22] at H
                exact absurd H (by simp)
              ·rw [if_neg c21] at H
               exact absurd H (by simp)
             ·rw [if_neg c19] at H
              exact absurd H (by simp)
            ·rw [if_neg c18] at H
             exact absurd H (by simp)
          ·rw [if_neg c16] at H
           have c16b0 : decide (x15_2 < a1) = false := decide_eq_false c16
           clear c16
           replace H := Option.bind_eq_some_iff.mp H
           obtain ⟨⟨t219, t220⟩, A240, H⟩ := H
           replace H : (if 0 ≤ x12_1 then (if x12_1 < (x9_1.length : Int) then (culletref11_Row.l0 k2 a0 a1 l2 a3 (x9_1.set (x12_1 : Int).toNat t219) t214 (wrap64 (x12_1 + 1))) else (none)) else (none)) = some r := H
           have A24 := Aside0.mk A240
           clear A240
           by_cases c25 : 0 ≤ x12_1
           ·rw [if_pos c25] at H
            have c25b0 : decide (0 ≤ x12_1) = true := decide_eq_true c25
            clear c25
            by_cases c26 : x12_1 < (x9_1.length : Int)
            ·rw [if_pos c26] at H
             have c26b0 : decide (x12_1 < (x9_1.length : Int)) = true := decide_eq_true c26
             clear c26
             obtain ⟨y221, hy221⟩ : ∃ y_ : List Int, y_ = (x9_1.set (x12_1 : Int).toNat t219) := ⟨_, rfl⟩
             replace H : (culletref11_Row.l0 k2 a0 a1 l2 a3 y221 t214 (wrap64 (x12_1 + 1))) = some r := by first | (rw [hy221]; with_reducible exact H) | (have H2_ := (Option.bind_some _ _).symm.trans H; rw [hy221]; with_reducible exact H2_) | (have H2_ := (Option.bind_some _ _).symm.trans H; with_reducible exact H2_) | with_reducible exact H | (rw [hy221]; exact H) | exact H
             have Ny221 := Aside0.mk hy221
             clear hy221
             have H' := Aside0.mk H
             clear H
             go_wp2_with (first | (go_at_call 82; (with_reducible refine (culletref02_Div.calls k2 x13_2 x14_2 t219 t220 _ A24.out).mono ?_); rintro e w' ⟨rfl, ⟨nd, rfl⟩⟩; (try first | exact ⟨rfl, _, World.drewN_drewN _ _ _⟩ | exact ⟨rfl, _, Eq.trans (World.drewN_drewN _ _ _) (congrArg (World.drewN _) (Nat.add_assoc _ _ _))⟩); have p27 : 0 ≤ (x12_1 : Int) := of_decide_eq_true (by first | (with_reducible assumption) | assumption); have q27 : (x12_1 : Int) < ((x9_1.length : Int) : Int) := of_decide_eq_true (by first | (with_reducible assumption) | assumption); obtain ⟨go27, co27, eo27, gb27, gl27, cl27, HG27⟩ := Kd.R_form HO_9.out (by omega); (first | cases eo27 | (injection eo27 with ea_ en_ ec_; (first | subst ea_ | (injection ea_ with ea_; subst ea_)); subst ec_; clear en_)); have GB27 := Aside0.mk gb27; have GG27 := Aside0.mk HG27; clear gb27 gl27 HG27; obtain ⟨hx27_0, hf27_0⟩ := Kd.R_celln 0 HO_9.out (x12_1 : Int) p27 q27; replace p27 := eq_true p27; replace q27 := eq_true q27; obtain ⟨hy28_, hz28_⟩ := Kd.R_celln 0 HO_9.out (x12_1 : Int) (of_decide_eq_true (by first | (with_reducible assumption) | assumption)) (of_decide_eq_true (by first | (with_reducible assumption) | assumption)); have HP28 := Kd.R_putg HO_9.out (x12_1 : Int) t219) | ((with_reducible refine gate_store (t := 5) (p := 79) rfl ?_); (try (rw [drewN_self wr]; generalize hq_ : World.drewN wr _ = wr; have n0_ := Aside0.mk (Kd.R_at hq_ HO_9.out); have n1_ := Aside0.mk (below_at hq_ HB.out); clear hq_ HO_9 HB; have HO_9 := n0_; have HB := n1_; clear n0_ n1_; (try (obtain ⟨hy28_, hz28_⟩ := Kd.R_celln 0 HO_9.out (x12_1 : Int) (of_decide_eq_true (by first | (with_reducible assumption) | assumption)) (of_decide_eq_true (by first | (with_reducible assumption) | assumption)))); (try (have HP28 := Kd.R_putg HO_9.out (x12_1 : Int) t219)))); refine store_event (t := 5) (p := 79) (v := ?vo_w29) (w1 := (wr.setCell ⟨go27, (x12_1 : Int).toNat, none⟩ (.int .u8 t219))) ?hg ?ho ?hn ?hr ?_; (case ho => rfl); (case hg => rfl); (case hn => rfl); (case hr => first | (go_simp; done) | (go_simp; rfl)); intro w29 hw; have hg : wr.grownBy w29 (some go27) := (by rw [hw]; exact HP28.2); have hp_ : Kd.R (Kd.int .u8) 5 w29 w.heap.size (fun _ => True) (.slice (some ⟨go27, 0, none⟩) x9_1.length co27) y221 := (by rw [hw, Ny221.out]; exact HP28.1); clear HP28; have n0_ := Aside0.mk (hp_); have n1_ := Aside0.mk ((by rw [hw]; exact below_set (HB.out) GB27.out : Below w.heap.size w w29)); clear HO_9; clear HB; have HO_9 := n0_; have HB := n1_; clear n0_ n1_; clear hg hw hp_))
             repeat (go_quiet (first | (go_at_call 82; (with_reducible refine (culletref02_Div.calls k2 x13_2 x14_2 t219 t220 _ A24.out).mono ?_); rintro e w' ⟨rfl, ⟨nd, rfl⟩⟩; (try first | exact ⟨rfl, _, World.drewN_drewN _ _ _⟩ | exact ⟨rfl, _, Eq.trans (World.drewN_drewN _ _ _) (congrArg (World.drewN _) (Nat.add_assoc _ _ _))⟩); have p27 : 0 ≤ (x12_1 : Int) := of_decide_eq_true (by first | (with_reducible assumption) | assumption); have q27 : (x12_1 : Int) < ((x9_1.length : Int) : Int) := of_decide_eq_true (by first | (with_reducible assumption) | assumption); obtain ⟨go27, co27, eo27, gb27, gl27, cl27, HG27⟩ := Kd.R_form HO_9.out (by omega); (first | cases eo27 | (injection eo27 with ea_ en_ ec_; (first | subst ea_ | (injection ea_ with ea_; subst ea_)); subst ec_; clear en_)); have GB27 := Aside0.mk gb27; have GG27 := Aside0.mk HG27; clear gb27 gl27 HG27; obtain ⟨hx27_0, hf27_0⟩ := Kd.R_celln 0 HO_9.out (x12_1 : Int) p27 q27; replace p27 := eq_true p27; replace q27 := eq_true q27; obtain ⟨hy28_, hz28_⟩ := Kd.R_celln 0 HO_9.out (x12_1 : Int) (of_decide_eq_true (by first | (with_reducible assumption) | assumption)) (of_decide_eq_true (by first | (with_reducible assumption) | assumption)); have HP28 := Kd.R_putg HO_9.out (x12_1 : Int) t219) | ((with_reducible refine gate_store (t := 5) (p := 79) rfl ?_); (try (rw [drewN_self wr]; generalize hq_ : World.drewN wr _ = wr; have n0_ := Aside0.mk (Kd.R_at hq_ HO_9.out); have n1_ := Aside0.mk (below_at hq_ HB.out); clear hq_ HO_9 HB; have HO_9 := n0_; have HB := n1_; clear n0_ n1_; (try (obtain ⟨hy28_, hz28_⟩ := Kd.R_celln 0 HO_9.out (x12_1 : Int) (of_decide_eq_true (by first | (with_reducible assumption) | assumption)) (of_decide_eq_true (by first | (with_reducible assumption) | assumption)))); (try (have HP28 := Kd.R_putg HO_9.out (x12_1 : Int) t219)))); refine store_event (t := 5) (p := 79) (v := ?vo_w29) (w1 := (wr.setCell ⟨go27, (x12_1 : Int).toNat, none⟩ (.int .u8 t219))) ?hg ?ho ?hn ?hr ?_; (case ho => rfl); (case hg => rfl); (case hn => rfl); (case hr => first | (go_simp; done) | (go_simp; rfl)); intro w29 hw; have hg : wr.grownBy w29 (some go27) := (by rw [hw]; exact HP28.2); have hp_ : Kd.R (Kd.int .u8) 5 w29 w.heap.size (fun _ => True) (.slice (some ⟨go27, 0, none⟩) x9_1.length co27) y221 := (by rw [hw, Ny221.out]; exact HP28.1); clear HP28; have n0_ := Aside0.mk (hp_); have n1_ := Aside0.mk ((by rw [hw]; exact below_set (HB.out) GB27.out : Below w.heap.size w w29)); clear HO_9; clear HB; have HO_9 := n0_; have HB := n1_; clear n0_ n1_; clear hg hw hp_)); try go_wp2_with (first | (go_at_call 82; (with_reducible refine (culletref02_Div.calls k2 x13_2 x14_2 t219 t220 _ A24.out).mono ?_); rintro e w' ⟨rfl, ⟨nd, rfl⟩⟩; (try first | exact ⟨rfl, _, World.drewN_drewN _ _ _⟩ | exact ⟨rfl, _, Eq.trans (World.drewN_drewN _ _ _) (congrArg (World.drewN _) (Nat.add_assoc _ _ _))⟩); have p27 : 0 ≤ (x12_1 : Int) := of_decide_eq_true (by first | (with_reducible assumption) | assumption); have q27 : (x12_1 : Int) < ((x9_1.length : Int) : Int) := of_decide_eq_true (by first | (with_reducible assumption) | assumption); obtain ⟨go27, co27, eo27, gb27, gl27, cl27, HG27⟩ := Kd.R_form HO_9.out (by omega); (first | cases eo27 | (injection eo27 with ea_ en_ ec_; (first | subst ea_ | (injection ea_ with ea_; subst ea_)); subst ec_; clear en_)); have GB27 := Aside0.mk gb27; have GG27 := Aside0.mk HG27; clear gb27 gl27 HG27; obtain ⟨hx27_0, hf27_0⟩ := Kd.R_celln 0 HO_9.out (x12_1 : Int) p27 q27; replace p27 := eq_true p27; replace q27 := eq_true q27; obtain ⟨hy28_, hz28_⟩ := Kd.R_celln 0 HO_9.out (x12_1 : Int) (of_decide_eq_true (by first | (with_reducible assumption) | assumption)) (of_decide_eq_true (by first | (with_reducible assumption) | assumption)); have HP28 := Kd.R_putg HO_9.out (x12_1 : Int) t219) | ((with_reducible refine gate_store (t := 5) (p := 79) rfl ?_); (try (rw [drewN_self wr]; generalize hq_ : World.drewN wr _ = wr; have n0_ := Aside0.mk (Kd.R_at hq_ HO_9.out); have n1_ := Aside0.mk (below_at hq_ HB.out); clear hq_ HO_9 HB; have HO_9 := n0_; have HB := n1_; clear n0_ n1_; (try (obtain ⟨hy28_, hz28_⟩ := Kd.R_celln 0 HO_9.out (x12_1 : Int) (of_decide_eq_true (by first | (with_reducible assumption) | assumption)) (of_decide_eq_true (by first | (with_reducible assumption) | assumption)))); (try (have HP28 := Kd.R_putg HO_9.out (x12_1 : Int) t219)))); refine store_event (t := 5) (p := 79) (v := ?vo_w29) (w1 := (wr.setCell ⟨go27, (x12_1 : Int).toNat, none⟩ (.int .u8 t219))) ?hg ?ho ?hn ?hr ?_; (case ho => rfl); (case hg => rfl); (case hn => rfl); (case hr => first | (go_simp; done) | (go_simp; rfl)); intro w29 hw; have hg : wr.grownBy w29 (some go27) := (by rw [hw]; exact HP28.2); have hp_ : Kd.R (Kd.int .u8) 5 w29 w.heap.size (fun _ => True) (.slice (some ⟨go27, 0, none⟩) x9_1.length co27) y221 := (by rw [hw, Ny221.out]; exact HP28.1); clear HP28; have n0_ := Aside0.mk (hp_); have n1_ := Aside0.mk ((by rw [hw]; exact below_set (HB.out) GB27.out : Below w.heap.size w w29)); clear HO_9; clear HB; have HO_9 := n0_; have HB := n1_; clear n0_ n1_; clear hg hw hp_)))
             go_roundg k2
             case measure => have := HK1.out; have := HK2.out; omega
             case rel => exact ⟨(y221), (wrap64 (x12_1 + 1)), (by first | rfl | (simp; done) | (simp [*]; done)), H', ⟨by have := HK1.out; have := HK2.out; omega⟩, ⟨by (with_reducible repeat (first | apply Kd.R_alloc | apply Kd.R_drewN | apply Kd.R_drew)); exact HO_9.out⟩, ⟨by repeat (first | (with_reducible first | exact HB.out | apply below_alloc | apply pw_below_drewN | apply below_drew1) | exact HB.out)⟩⟩
            ·rw [if_neg c26] at H
             exact absurd H (by simp)
           ·rw [if_neg c25] at H
            exact absurd H (by simp)
       ·rw [if_neg c13] at H
        exact absurd H (by simp)
      ·rw [if_neg c12] at H
       exact absurd H (by simp)
     ·rw [if_neg c11] at H
      have c11b0 : decide (x12_1 < a1) = false := decide_eq_false c11
      clear c11
      obtain rfl := Option.some.inj H
      go_wp2
      repeat (go_quiet (fail); try go_wp2)
      go_ret
      exact ⟨_, by first | rfl | (simp [errW_none, errW_some] <;> rfl) | (simp [*, errW_none, errW_some] <;> rfl), by (with_reducible repeat (first | apply Kd.R_alloc | apply Kd.R_drewN | apply Kd.R_drew)); exact HO_9.out, by repeat (first | (with_reducible first | exact HB.out | apply below_alloc | apply pw_below_drewN | apply below_drew1) | exact HB.out)⟩
  ·rw [if_neg c6] at H
   exact absurd H (by simp)
 ·rw [if_neg c5] at H
  exact absurd H (by simp)

end Go.Proofs.Ytkdoilmfchlpdaa.A
end
section
-- Printed for this claim by mp.py, a program of its prover, through the kit's print. Lean checks it.
namespace Go.Proofs.Ytkdoilmfchlpdaa.A
open Go.RowKit Go.Proofs.YtkdoilmfchlpdaaW.PrintWords Go.Proofs.YtkdoilmfchlpdaaW.PrintLast Go.Proofs.YtkdoilmfchlpdaaW.PrintMore
attribute [local go_sem] max2_int min2_int max_two min_two max_three min_three max_four min_four   -- for this text's walks alone
set_option linter.unusedVariables false
set_option linter.unusedSimpArgs false

end Go.Proofs.Ytkdoilmfchlpdaa.A
end
section
-- Printed for this claim by mp.py, a program of its prover, through the kit's print. Lean checks it.
namespace Go.Proofs.Ytkdoilmfchlpdaa.A
open Go.RowKit Go.Proofs.YtkdoilmfchlpdaaW.PrintWords Go.Proofs.YtkdoilmfchlpdaaW.PrintLast Go.Proofs.YtkdoilmfchlpdaaW.PrintMore
attribute [local go_sem] max2_int min2_int max_two min_two max_three min_three max_four min_four   -- for this text's walks alone
set_option linter.unusedVariables false
set_option linter.unusedSimpArgs false

end Go.Proofs.Ytkdoilmfchlpdaa.A
end
section
-- Printed for this claim by mp.py, a program of its prover, through the kit's print. Lean checks it.
namespace Go.Proofs.Ytkdoilmfchlpdaa.A
open Go.RowKit Go.Proofs.YtkdoilmfchlpdaaW.PrintWords Go.Proofs.YtkdoilmfchlpdaaW.PrintLast Go.Proofs.YtkdoilmfchlpdaaW.PrintMore
attribute [local go_sem] max2_int min2_int max_two min_two max_three min_three max_four min_four   -- for this text's walks alone
set_option linter.unusedVariables false
set_option linter.unusedSimpArgs false

/-! ### gener_numbers: function 46 -/
def gener_numbers.l0 : Nat → List Int → Int → List Int → Int → Int → Option (Bool)
 | 0, _, _, _, _, _ => none
 | k + 1, x0, x1, x7, x8, x9 => if x9 < x8 then (if 0 ≤ x9 then (if x9 < (x7.length : Int) then (if (rd x7 x9) < 0 then (some false) else (if (rd x7 x9) ≥ x1 then (some false) else (if x9 > 0 then (if 0 ≤ (wrap64 (x9 - 1)) then (if (wrap64 (x9 - 1)) < (x0.length : Int) then (if (rd x7 x9) ≤ (rd x0 (wrap64 (x9 - 1))) then (some false) else (gener_numbers.l0 k x0 x1 x7 x8 (wrap64 (x9 + 1)))) else (none)) else (none)) else (gener_numbers.l0 k x0 x1 x7 x8 (wrap64 (x9 + 1)))))) else (none)) else (none)) else (some true)
def gener_numbers.f (k : Nat) (l0 : List Int) (a1 : Int) : Option (Bool) := gener_numbers.l0 k l0 a1 l0 (l0.length : Int) 0
theorem gener_numbers.mono_l : ∀ k, (∀ y0 y1 y2 y3 y4, LeO (gener_numbers.l0 k y0 y1 y2 y3 y4) (gener_numbers.l0 (k + 1) y0 y1 y2 y3 y4))
 | 0 => fun _ _ _ _ _ r h => by simp [gener_numbers.l0] at h
 | k + 1 => by
  have ih0 := gener_numbers.mono_l k
  ·intro y0 y1 y2 y3 y4
   unfold gener_numbers.l0
   repeat' first
   | (with_reducible exact ih0 _ _ _ _ _)
   | (with_reducible exact LeO.refl _)
   | (with_reducible exact LeO.none _)
   | (with_reducible refine LeO.ite ?_ ?_)
   | (with_reducible refine LeO.bind ?_ (fun _ => ?_))
   | exact ih0 _ _ _ _ _
   | exact LeO.none _
   | refine LeO.ite ?_ ?_
   | refine LeO.bind ?_ (fun _ => ?_)
theorem gener_numbers.mono : ∀ a0 a1 k, LeO (gener_numbers.f k a0 a1) (gener_numbers.f (k + 1) a0 a1) := by
 intro a0 a1 k
 have ih0 := gener_numbers.mono_l k
 unfold gener_numbers.f
 repeat' first
   | (with_reducible exact ih0 _ _ _ _ _)
   | (with_reducible exact LeO.refl _)
   | (with_reducible exact LeO.none _)
   | (with_reducible refine LeO.ite ?_ ?_)
   | (with_reducible refine LeO.bind ?_ (fun _ => ?_))
   | exact ih0 _ _ _ _ _
   | exact LeO.none _
   | refine LeO.ite ?_ ?_
   | refine LeO.bind ?_ (fun _ => ?_)
set_option maxHeartbeats 8000000 in
set_option maxRecDepth 100000 in
theorem gener_numbers.calls (k : Nat) (A0 : Option Addr) (c0 : Nat) (l0 : List Int) (a1 : Int) (r : Bool) (w : World) (hr0 : Kd.C (Kd.int .i64) w A0 l0.length l0) (hc0 : l0.length ≤ c0) (h : gener_numbers.f k l0 a1 = some r) :
  Calls Try.prog 46 #[.slice A0 l0.length c0, .int .i64 a1] w fun e w' => e = .returned (.bool r) ∧ Drawn0 w w' := by
 have HR0 := Aside0.mk hr0
 have HC0 := Aside0.mk hc0
 clear hr0 hc0
 have H : (gener_numbers.l0 k l0 a1 l0 (l0.length : Int) 0) = some r := h
 clear h
 have H' := Aside0.mk H
 clear H
 go_enter Try.func46, Try.ntmps46
 go_wp2
 go_loopg [9] k (fun kq v9 w' => ∃ (x9_1 : Int), v9 = .int .i64 x9_1 ∧ Aside0 (gener_numbers.l0 kq l0 a1 l0 (l0.length : Int) x9_1 = some r) ∧ Aside0 (kq ≤ k) ∧ Drawn0 w w')
 case atStart => exact ⟨(0), (by first | rfl | (simp; done) | (simp [*]; done)), H', ⟨Nat.le_refl _⟩, by repeat (first | exact Drawn0.refl _ | apply Drawn0.step)⟩
 case round =>
  clear H'
  try clear p2
  obtain ⟨x9_1, rfl, HA, HK1, ⟨m1, rfl⟩⟩ := hrel
  cases gk with
  | zero => exact absurd HA.out (by simp [gener_numbers.l0])
  | succ k1 =>
   have H := HA.out
   clear HA
   simp only [gener_numbers.l0] at H
   by_cases c3 : x9_1 < (l0.length : Int)
   ·rw [if_pos c3] at H
    have c3b0 : decide (x9_1 < (l0.length : Int)) = true := decide_eq_true c3
    clear c3
    by_cases c4 : 0 ≤ x9_1
    ·rw [if_pos c4] at H
     have c4b0 : decide (0 ≤ x9_1) = true := decide_eq_true c4
     clear c4
     by_cases c5 : x9_1 < (l0.length : Int)
     ·rw [if_pos c5] at H
      have c5b0 : decide (x9_1 < (l0.length : Int)) = true := decide_eq_true c5
      clear c5
      by_cases c6 : (rd l0 x9_1) < 0
      ·rw [if_pos c6] at H
       have c6b0 : decide ((rd l0 x9_1) < 0) = true := decide_eq_true c6
       clear c6
       obtain rfl := Option.some.inj H
       have p239 : 0 ≤ (x9_1 : Int) := of_decide_eq_true (by first | (with_reducible assumption) | assumption)
       have q239 : x9_1 < (l0.length : Int) := of_decide_eq_true (by first | (with_reducible assumption) | assumption)
       obtain ⟨ad239, e239, hx239_0⟩ := Kd.at_int HR0.out x9_1 p239 q239
       cases e239
       replace p239 := eq_true p239
       replace q239 := eq_true q239
       go_wp2
       go_ret
       exact ⟨by first | rfl | (simp; done) | (simp [*]; done), by repeat (first | exact Drawn0.refl _ | apply Drawn0.step)⟩
      ·rw [if_neg c6] at H
       have c6b0 : decide ((rd l0 x9_1) < 0) = false := decide_eq_false c6
       clear c6
       by_cases c7 : (rd l0 x9_1) ≥ a1
       ·rw [if_pos c7] at H
        have c7b0 : decide (a1 ≤ (rd l0 x9_1)) = true := decide_eq_true c7
        clear c7
        obtain rfl := Option.some.inj H
        have p239 : 0 ≤ (x9_1 : Int) := of_decide_eq_true (by first | (with_reducible assumption) | assumption)
        have q239 : x9_1 < (l0.length : Int) := of_decide_eq_true (by first | (with_reducible assumption) | assumption)
        obtain ⟨ad239, e239, hx239_0⟩ := Kd.at_int HR0.out x9_1 p239 q239
        cases e239
        replace p239 := eq_true p239
        replace q239 := eq_true q239
        go_wp2
        go_ret
        exact ⟨by first | rfl | (simp; done) | (simp [*]; done), by repeat (first | exact Drawn0.refl _ | apply Drawn0.step)⟩
       ·rw [if_neg c7] at H
        have c7b0 : decide (a1 ≤ (rd l0 x9_1)) = false := decide_eq_false c7
        clear c7
        by_cases c8 : x9_1 > 0
        ·rw [if_pos c8] at H
         have c8b0 : decide (0 < x9_1) = true := decide_eq_true c8
         clear c8
         obtain ⟨ji9, hji9⟩ : ∃ j_ : Int, (wrap64 (x9_1 - 1)) = j_ := ⟨_, rfl⟩
         replace H : (if 0 ≤ (ji9) then (if (ji9) < (l0.length : Int) then (if (rd l0 x9_1) ≤ (rd l0 (ji9)) then (some false) else (gener_numbers.l0 k1 l0 a1 l0 (l0.length : Int) (wrap64 (x9_1 + 1)))) else (none)) else (none)) = some r := by first | (rw [hji9] at H; exact H) | (simp only [hji9] at H ⊢; exact H)
         have hji9w : (IntKind.i64.wrap (x9_1 - 1)) = ji9 := (i64_w _).trans hji9
         by_cases c10 : 0 ≤ (ji9)
         ·rw [if_pos c10] at H
          have c10b0 : decide (0 ≤ (ji9)) = true := decide_eq_true c10
          clear c10
          by_cases c11 : (ji9) < (l0.length : Int)
          ·rw [if_pos c11] at H
           have c11b0 : decide ((ji9) < (l0.length : Int)) = true := decide_eq_true c11
           clear c11
           by_cases c12 : (rd l0 x9_1) ≤ (rd l0 (ji9))
           ·rw [if_pos c12] at H
            have c12b0 : decide ((rd l0 x9_1) ≤ (rd l0 (ji9))) = true := decide_eq_true c12
            clear c12
            obtain rfl := Option.some.inj H
            have p239 : 0 ≤ (x9_1 : Int) := of_decide_eq_true (by first | (with_reducible assumption) | assumption)
            have q239 : x9_1 < (l0.length : Int) := of_decide_eq_true (by first | (with_reducible assumption) | assumption)
            obtain ⟨ad239, e239, hx239_0⟩ := Kd.at_int HR0.out x9_1 p239 q239
            cases e239
            replace p239 := eq_true p239
            replace q239 := eq_true q239
            have p240 : 0 ≤ ((ji9) : Int) := of_decide_eq_true (by first | (with_reducible assumption) | assumption)
            have q240 : (ji9) < (l0.length : Int) := of_decide_eq_true (by first | (with_reducible assumption) | assumption)
            obtain ⟨ad240, e240, hx240_0⟩ := Kd.at_int HR0.out (ji9) p240 q240
            obtain rfl : ad239 = ad240 := (by injection e240)
            replace p240 := eq_true p240
            replace q240 := eq_true q240
            go_wp2
            go_ret
            exact ⟨by first | rfl | (simp; done) | (simp only [← hji9] <;> (first | rfl | simp)) | (simp [*]; done), by repeat (first | exact Drawn0.refl _ | apply Drawn0.step)⟩
           ·rw [if_neg c12] at H
            have c12b0 : decide ((rd l0 x9_1) ≤ (rd l0 (ji9))) = false := decide_eq_false c12
            clear c12
            have H' := Aside0.mk H
            clear H
            have p239 : 0 ≤ (x9_1 : Int) := of_decide_eq_true (by first | (with_reducible assumption) | assumption)
            have q239 : x9_1 < (l0.length : Int) := of_decide_eq_true (by first | (with_reducible assumption) | assumption)
            obtain ⟨ad239, e239, hx239_0⟩ := Kd.at_int HR0.out x9_1 p239 q239
            cases e239
            replace p239 := eq_true p239
            replace q239 := eq_true q239
            have p240 : 0 ≤ ((ji9) : Int) := of_decide_eq_true (by first | (with_reducible assumption) | assumption)
            have q240 : (ji9) < (l0.length : Int) := of_decide_eq_true (by first | (with_reducible assumption) | assumption)
            obtain ⟨ad240, e240, hx240_0⟩ := Kd.at_int HR0.out (ji9) p240 q240
            obtain rfl : ad239 = ad240 := (by injection e240)
            replace p240 := eq_true p240
            replace q240 := eq_true q240
            go_wp2
            go_roundg k1
            case measure => have := HK1.out; omega
            case rel => exact ⟨(wrap64 (x9_1 + 1)), (by first | rfl | (simp; done) | (simp [*]; done)), H', ⟨by have := HK1.out; omega⟩, by repeat (first | exact Drawn0.refl _ | apply Drawn0.step)⟩
          ·rw [if_neg c11] at H
           exact absurd H (by simp)
         ·rw [if_neg c10] at H
          exact absurd H (by simp)
        ·rw [if_neg c8] at H
         have c8b0 : decide (0 < x9_1) = false := decide_eq_false c8
         clear c8
         have H' := Aside0.mk H
         clear H
         have p239 : 0 ≤ (x9_1 : Int) := of_decide_eq_true (by first | (with_reducible assumption) | assumption)
         have q239 : x9_1 < (l0.length : Int) := of_decide_eq_true (by first | (with_reducible assumption) | assumption)
         obtain ⟨ad239, e239, hx239_0⟩ := Kd.at_int HR0.out x9_1 p239 q239
         cases e239
         replace p239 := eq_true p239
         replace q239 := eq_true q239
         go_wp2
         go_roundg k1
         case measure => have := HK1.out; omega
         case rel => exact ⟨(wrap64 (x9_1 + 1)), (by first | rfl | (simp; done) | (simp [*]; done)), H', ⟨by have := HK1.out; omega⟩, by repeat (first | exact Drawn0.refl _ | apply Drawn0.step)⟩
     ·rw [if_neg c5] at H
      exact absurd H (by simp)
    ·rw [if_neg c4] at H
     exact absurd H (by simp)
   ·rw [if_neg c3] at H
    have c3b0 : decide (x9_1 < (l0.length : Int)) = false := decide_eq_false c3
    clear c3
    obtain rfl := Option.some.inj H
    go_wp2
    go_ret
    exact ⟨by first | rfl | (simp; done) | (simp [*]; done), by repeat (first | exact Drawn0.refl _ | apply Drawn0.step)⟩

end Go.Proofs.Ytkdoilmfchlpdaa.A
end
