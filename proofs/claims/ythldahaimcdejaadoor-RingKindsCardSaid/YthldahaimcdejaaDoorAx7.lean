import Derived.Test.YthldahaimcdejaaDoorAx0
import Derived.Test.YthldahaimcdejaaDoorAx5
-- Printed for this claim by mp.py, a program of its prover, through the kit's print. Lean checks it.
namespace Go.Proofs.YthldahaimcdejaaDoor.A
open Go.RowKit Go.Proofs.YthldahaimcdejaaDoorW.PrintWords Go.Proofs.YthldahaimcdejaaDoorW.PrintLast Go.Proofs.YthldahaimcdejaaDoorW.PrintMore
attribute [local go_sem] max2_int min2_int max_two min_two max_three min_three max_four min_four   -- for this text's walks alone
set_option linter.unusedVariables false
set_option linter.unusedSimpArgs false

/-! ### culletref01_combine: function 48 -/
mutual
def culletref01_combine.l0 : Nat → Int → Int → Int → List Int → List Int → Int → Int → Option (Int × Bool)
 | 0, _, _, _, _, _, _, _ => none
 | k + 1, x1, x2, x3, x10, x11, x12, x13 => if x13 < x3 then (if 0 ≤ (IntKind.u64.wrap (x13)) then (culletref01_combine.l1 k x1 x2 x3 x10 x11 x12 x13 x12 (shl .u64 1 (IntKind.u64.wrap (x13))) 0) else (none)) else ((culletref01_rest.f k x1 x2).bind fun t182 => (culletref01_combine.l2 k x10 x11 t182 0 0))
def culletref01_combine.l1 : Nat → Int → Int → Int → List Int → List Int → Int → Int → Int → Int → Int → Option (Int × Bool)
 | 0, _, _, _, _, _, _, _, _, _, _ => none
 | k + 1, x1, x2, x3, x10, x11, x12, x13, x14, x15, x16 => if x16 < (x10.length : Int) then ((culletref01_Degree.f k x14).bind fun t177 => (if t177 ≥ 0 then (if 0 ≤ x16 then ((culletref01_Degree.f k (rd x10 x16)).bind fun t179 => (if 0 ≤ (IntKind.u64.wrap (t179)) then (if (Go.bits .and .u64 (shr .u64 x14 (IntKind.u64.wrap (t179))) 1) = 1 then (if x16 < (x11.length : Int) then (culletref01_combine.l1 k x1 x2 x3 x10 x11 x12 x13 (Go.bits .xor .u64 x14 (rd x10 x16)) (Go.bits .xor .u64 x15 (rd x11 x16)) (wrap64 (x16 + 1))) else (none)) else (culletref01_combine.l1 k x1 x2 x3 x10 x11 x12 x13 x14 x15 (wrap64 (x16 + 1)))) else (none))) else (none)) else (culletref01_combine.l1 k x1 x2 x3 x10 x11 x12 x13 x14 x15 (wrap64 (x16 + 1))))) else (if x14 = 0 then ((culletref01_rest.f k (IntKind.u64.wrap (2 * x12)) x2).bind fun t169 => (culletref01_combine.l0 k x1 x2 x3 x10 x11 t169 (wrap64 (x13 + 1)))) else (if x10.length < 17592186044416 then (if x11.length < 17592186044416 then ((culletref01_rest.f k (IntKind.u64.wrap (2 * x12)) x2).bind fun t176 => (culletref01_combine.l0 k x1 x2 x3 (x10 ++ [x14]) (x11 ++ [x15]) t176 (wrap64 (x13 + 1)))) else (none)) else (none)))
def culletref01_combine.l2 : Nat → List Int → List Int → Int → Int → Int → Option (Int × Bool)
 | 0, _, _, _, _, _ => none
 | k + 1, x10, x11, x17, x18, x19 => if x19 < (x10.length : Int) then (if 0 ≤ x19 then ((culletref01_Degree.f k (rd x10 x19)).bind fun t184 => (if 0 ≤ (IntKind.u64.wrap (t184)) then (if (Go.bits .and .u64 (shr .u64 x17 (IntKind.u64.wrap (t184))) 1) = 1 then (if x19 < (x11.length : Int) then (culletref01_combine.l2 k x10 x11 (Go.bits .xor .u64 x17 (rd x10 x19)) (Go.bits .xor .u64 x18 (rd x11 x19)) (wrap64 (x19 + 1))) else (none)) else (culletref01_combine.l2 k x10 x11 x17 x18 (wrap64 (x19 + 1)))) else (none))) else (none)) else (some (x18, (x17 == 0)))
end
def culletref01_combine.f (k : Nat) (a0 : Int) (a1 : Int) (a2 : Int) (a3 : Int) : Option (Int × Bool) := (culletref01_rest.f k a0 a2).bind fun t168 => (culletref01_combine.l0 k a1 a2 a3 ([] : List Int) ([] : List Int) t168 0)
theorem culletref01_combine.mono_l : ∀ k, (∀ y0 y1 y2 y3 y4 y5 y6, LeO (culletref01_combine.l0 k y0 y1 y2 y3 y4 y5 y6) (culletref01_combine.l0 (k + 1) y0 y1 y2 y3 y4 y5 y6)) ∧ (∀ y0 y1 y2 y3 y4 y5 y6 y7 y8 y9, LeO (culletref01_combine.l1 k y0 y1 y2 y3 y4 y5 y6 y7 y8 y9) (culletref01_combine.l1 (k + 1) y0 y1 y2 y3 y4 y5 y6 y7 y8 y9)) ∧ (∀ y0 y1 y2 y3 y4, LeO (culletref01_combine.l2 k y0 y1 y2 y3 y4) (culletref01_combine.l2 (k + 1) y0 y1 y2 y3 y4))
 | 0 => ⟨fun _ _ _ _ _ _ _ r h => by simp [culletref01_combine.l0] at h, fun _ _ _ _ _ _ _ _ _ _ r h => by simp [culletref01_combine.l1] at h, fun _ _ _ _ _ r h => by simp [culletref01_combine.l2] at h⟩
 | k + 1 => by
  obtain ⟨ih0, ih1, ih2⟩ := culletref01_combine.mono_l k
  refine ⟨?_, ?_, ?_⟩
  ·intro y0 y1 y2 y3 y4 y5 y6
   unfold culletref01_combine.l0
   repeat' first
   | (with_reducible exact ih0 _ _ _ _ _ _ _)
   | (with_reducible exact ih1 _ _ _ _ _ _ _ _ _ _)
   | (with_reducible exact ih2 _ _ _ _ _)
   | (with_reducible exact culletref01_Degree.mono _ _)
   | (with_reducible exact culletref01_rest.mono _ _ _)
   | (with_reducible exact LeO.refl _)
   | (with_reducible exact LeO.none _)
   | (with_reducible refine LeO.ite ?_ ?_)
   | (with_reducible refine LeO.bind ?_ (fun _ => ?_))
   | exact ih0 _ _ _ _ _ _ _
   | exact ih1 _ _ _ _ _ _ _ _ _ _
   | exact ih2 _ _ _ _ _
   | exact culletref01_Degree.mono _ _
   | exact culletref01_rest.mono _ _ _
   | exact LeO.none _
   | refine LeO.ite ?_ ?_
   | refine LeO.bind ?_ (fun _ => ?_)
  ·intro y0 y1 y2 y3 y4 y5 y6 y7 y8 y9
   unfold culletref01_combine.l1
   repeat' first
   | (with_reducible exact ih0 _ _ _ _ _ _ _)
   | (with_reducible exact ih1 _ _ _ _ _ _ _ _ _ _)
   | (with_reducible exact ih2 _ _ _ _ _)
   | (with_reducible exact culletref01_Degree.mono _ _)
   | (with_reducible exact culletref01_rest.mono _ _ _)
   | (with_reducible exact LeO.refl _)
   | (with_reducible exact LeO.none _)
   | (with_reducible refine LeO.ite ?_ ?_)
   | (with_reducible refine LeO.bind ?_ (fun _ => ?_))
   | exact ih0 _ _ _ _ _ _ _
   | exact ih1 _ _ _ _ _ _ _ _ _ _
   | exact ih2 _ _ _ _ _
   | exact culletref01_Degree.mono _ _
   | exact culletref01_rest.mono _ _ _
   | exact LeO.none _
   | refine LeO.ite ?_ ?_
   | refine LeO.bind ?_ (fun _ => ?_)
  ·intro y0 y1 y2 y3 y4
   unfold culletref01_combine.l2
   repeat' first
   | (with_reducible exact ih0 _ _ _ _ _ _ _)
   | (with_reducible exact ih1 _ _ _ _ _ _ _ _ _ _)
   | (with_reducible exact ih2 _ _ _ _ _)
   | (with_reducible exact culletref01_Degree.mono _ _)
   | (with_reducible exact culletref01_rest.mono _ _ _)
   | (with_reducible exact LeO.refl _)
   | (with_reducible exact LeO.none _)
   | (with_reducible refine LeO.ite ?_ ?_)
   | (with_reducible refine LeO.bind ?_ (fun _ => ?_))
   | exact ih0 _ _ _ _ _ _ _
   | exact ih1 _ _ _ _ _ _ _ _ _ _
   | exact ih2 _ _ _ _ _
   | exact culletref01_Degree.mono _ _
   | exact culletref01_rest.mono _ _ _
   | exact LeO.none _
   | refine LeO.ite ?_ ?_
   | refine LeO.bind ?_ (fun _ => ?_)
theorem culletref01_combine.mono : ∀ a0 a1 a2 a3 k, LeO (culletref01_combine.f k a0 a1 a2 a3) (culletref01_combine.f (k + 1) a0 a1 a2 a3) := by
 intro a0 a1 a2 a3 k
 obtain ⟨ih0, ih1, ih2⟩ := culletref01_combine.mono_l k
 unfold culletref01_combine.f
 repeat' first
   | (with_reducible exact ih0 _ _ _ _ _ _ _)
   | (with_reducible exact ih1 _ _ _ _ _ _ _ _ _ _)
   | (with_reducible exact ih2 _ _ _ _ _)
   | (with_reducible exact culletref01_Degree.mono _ _)
   | (with_reducible exact culletref01_rest.mono _ _ _)
   | (with_reducible exact LeO.refl _)
   | (with_reducible exact LeO.none _)
   | (with_reducible refine LeO.ite ?_ ?_)
   | (with_reducible refine LeO.bind ?_ (fun _ => ?_))
   | exact ih0 _ _ _ _ _ _ _
   | exact ih1 _ _ _ _ _ _ _ _ _ _
   | exact ih2 _ _ _ _ _
   | exact culletref01_Degree.mono _ _
   | exact culletref01_rest.mono _ _ _
   | exact LeO.none _
   | refine LeO.ite ?_ ?_
   | refine LeO.bind ?_ (fun _ => ?_)
set_option maxHeartbeats 8000000 in
set_option maxRecDepth 100000 in
theorem culletref01_combine.calls (k : Nat) (a0 : Int) (a1 : Int) (a2 : Int) (a3 : Int) (r1 : Int) (r2 : Bool) (w : World) (h : culletref01_combine.f k a0 a1 a2 a3 = some (r1, r2)) :
  Calls Tryd.prog 48 #[.int .u64 a0, .int .u64 a1, .int .u64 a2, .int .i64 a3] w fun e w' => e = .returned (.tuple #[.int .u64 r1, .bool r2]) ∧ Below w.heap.size w w' := by
 have HB := Aside0.mk (Below.refl w.heap.size w)
 have H : ((culletref01_rest.f k a0 a2).bind fun t168 => (culletref01_combine.l0 k a1 a2 a3 ([] : List Int) ([] : List Int) t168 0)) = some (r1, r2) := h
 clear h
 replace H := Option.bind_eq_some_iff.mp H
 obtain ⟨t168, A50, H⟩ := H
 replace H : (culletref01_combine.l0 k a1 a2 a3 ([] : List Int) ([] : List Int) t168 0) = some (r1, r2) := H
 have A5 := Aside0.mk A50
 clear A50
 have H' := Aside0.mk H
 clear H
 go_enter Tryd.func48, Tryd.ntmps48
 go_wp2_with (first | ((with_reducible refine gate_callee (f := 60) rfl ?_); refine goesL_ (some 22) rfl rfl Tryd.func60 (by kernel_rfl) rfl #[.int .u64 a0, .int .u64 a2] rfl (by (try simp only [List.map_toArray, List.map_cons, List.map_nil]); first | done | rfl | (simp only [tb_wrap8]; done) | (simp only [tb_wrap8]; rfl) | (simp only [List.length_drop, List.length_take]; rfl)) ?_; (with_reducible refine (culletref01_rest.calls k a0 a2 t168 _ A5.out).mono ?_); rintro e w' ⟨rfl, ⟨nd, rfl⟩⟩; refine ⟨_, rfl, ?_⟩))
 go_loopg [10, 11, 12, 13] k (fun kq v10 v11 v12 v13 w' => ∃ (x10_1 : List Int) (x11_1 : List Int) (x12_1 : Int) (x13_1 : Int), v12 = .int .u64 x12_1 ∧ v13 = .int .i64 x13_1 ∧ Aside0 (culletref01_combine.l0 kq a1 a2 a3 x10_1 x11_1 x12_1 x13_1 = some (r1, r2)) ∧ Aside0 (kq ≤ k) ∧ Aside0 (Kd.R (Kd.int .u64) 24 w' w.heap.size (fun k_ => some k_ ≠ (v11 : Value).ownBlock) v10 x10_1) ∧ Aside0 (Kd.R (Kd.int .u64) 24 w' w.heap.size (fun k_ => some k_ ≠ (v10 : Value).ownBlock) v11 x11_1) ∧ Aside0 (Below w.heap.size w w'))
 case atStart => exact ⟨(([] : List Int)), (([] : List Int)), (t168), (0), (by first | rfl | (simp; done) | (simp [*]; done)), (by first | rfl | (simp; done) | (simp [*]; done)), H', ⟨Nat.le_refl _⟩, ⟨by first | exact Kd.R_nil _ _ _ _ _ | exact Kd.N_nil _ _ _ _ _ | exact Kd.V_nil _ _ _ _ _ | exact Kd.Q_nil _ _ _ _ _ | exact Kd.S_nil _ _ _ _ _⟩, ⟨by first | exact Kd.R_nil _ _ _ _ _ | exact Kd.N_nil _ _ _ _ _ | exact Kd.V_nil _ _ _ _ _ | exact Kd.Q_nil _ _ _ _ _ | exact Kd.S_nil _ _ _ _ _⟩, ⟨by repeat (first | (with_reducible first | exact HB.out | apply below_alloc | apply pw_below_drewN | apply below_drew1) | exact HB.out)⟩⟩
 case round =>
  clear H'
  try clear p2
  try clear c4
  obtain ⟨x10_1, x11_1, x12_1, x13_1, rfl, rfl, HA, HK1, HO_10, HO_11, HB⟩ := hrel
  cases gk with
  | zero => exact absurd HA.out (by simp [culletref01_combine.l0])
  | succ k1 =>
   have H := HA.out
   clear HA
   simp only [culletref01_combine.l0] at H
   by_cases c6 : x13_1 < a3
   ·rw [if_pos c6] at H
    have c6b0 : decide (x13_1 < a3) = true := decide_eq_true c6
    clear c6
    obtain ⟨ji7, hji7⟩ : ∃ j_ : Int, (IntKind.u64.wrap (x13_1)) = j_ := ⟨_, rfl⟩
    replace H : (if 0 ≤ (ji7) then (culletref01_combine.l1 k1 a1 a2 a3 x10_1 x11_1 x12_1 x13_1 x12_1 (shl .u64 1 (ji7)) 0) else (none)) = some (r1, r2) := by first | (rw [hji7] at H; exact H) | (simp only [hji7] at H ⊢; exact H)
    by_cases c8 : 0 ≤ (ji7)
    ·rw [if_pos c8] at H
     have c8b0 := eq_true c8
     have c8b1 : decide (0 ≤ (ji7)) = true := decide_eq_true c8
     clear c8
     obtain ⟨ji9, hji9⟩ : ∃ j_ : Int, (shl .u64 1 (ji7)) = j_ := ⟨_, rfl⟩
     replace H : (culletref01_combine.l1 k1 a1 a2 a3 x10_1 x11_1 x12_1 x13_1 x12_1 ji9 0) = some (r1, r2) := by first | (rw [hji9] at H; exact H) | (simp only [hji9] at H ⊢; exact H)
     have hji9_ : (IntKind.u64.wrap (1 * 2 ^ min (ji7).toNat 64)) = ji9 := hji9
     have hji9z : (ji7) ≤ 64 → (IntKind.u64.wrap (1 * 2 ^ (ji7).toNat)) = ji9 := shl_small hji9
     have hji9u : (IntKind.u64.wrap (2 ^ min (ji7).toNat 64)) = ji9 := by have h_ := hji9_; rw [Int.one_mul] at h_; exact h_
     have hji9v : (ji7) ≤ 64 → (IntKind.u64.wrap (2 ^ (ji7).toNat)) = ji9 := fun hle_ => by have h_ := hji9z hle_; rw [Int.one_mul] at h_; exact h_
     have H' := Aside0.mk H
     clear H
     go_wp2
     go_loopg [14, 15, 16] k1 (fun kq v14 v15 v16 w' => ∃ (x14_2 : Int) (x15_2 : Int) (x16_2 : Int), v14 = .int .u64 x14_2 ∧ v15 = .int .u64 x15_2 ∧ v16 = .int .i64 x16_2 ∧ Aside0 (culletref01_combine.l1 kq a1 a2 a3 x10_1 x11_1 x12_1 x13_1 x14_2 x15_2 x16_2 = some (r1, r2)) ∧ Aside0 (kq ≤ k1) ∧ Aside0 (Kd.R (Kd.int .u64) 24 w' w.heap.size (fun k_ => some k_ ≠ (u11 : Value).ownBlock) u10 x10_1) ∧ Aside0 (Kd.R (Kd.int .u64) 24 w' w.heap.size (fun k_ => some k_ ≠ (u10 : Value).ownBlock) u11 x11_1) ∧ Aside0 (Below w.heap.size w w'))
     case atStart => exact ⟨(x12_1), (ji9), (0), (by first | rfl | (simp; done) | (simp [*]; done)), (by first | rfl | (simp; done) | (simp only [← hji9] <;> (first | rfl | simp)) | (simp [*]; done)), (by first | rfl | (simp; done) | (simp [*]; done)), H', ⟨Nat.le_refl _⟩, ⟨by (with_reducible repeat (first | apply Kd.R_alloc | apply Kd.R_drewN | apply Kd.R_drew)); exact HO_10.out⟩, ⟨by (with_reducible repeat (first | apply Kd.R_alloc | apply Kd.R_drewN | apply Kd.R_drew)); exact HO_11.out⟩, ⟨by repeat (first | (with_reducible first | exact HB.out | apply below_alloc | apply pw_below_drewN | apply below_drew1) | exact HB.out)⟩⟩
     case round =>
      clear H'
      try clear p2
      try clear c4
      try clear c6
      try clear c6b0
      try clear c8
      try clear c8b0
      try clear c8b1
      try clear p8
      try clear p2
      obtain ⟨x14_2, x15_2, x16_2, rfl, rfl, rfl, HA, HK2, HO_10, HO_11, HB⟩ := hrel
      cases gk with
      | zero => exact absurd HA.out (by simp [culletref01_combine.l1])
      | succ k2 =>
       have H := HA.out
       clear HA
       simp only [culletref01_combine.l1] at H
       by_cases c10 : x16_2 < (x10_1.length : Int)
       ·rw [if_pos c10] at H
        have c10b0 : decide (x16_2 < (x10_1.length : Int)) = true := decide_eq_true c10
        clear c10
        replace H := Option.bind_eq_some_iff.mp H
        obtain ⟨t177, A110, H⟩ := H
        replace H : (if t177 ≥ 0 then (if 0 ≤ x16_2 then ((culletref01_Degree.f k2 (rd x10_1 x16_2)).bind fun t179 => (if 0 ≤ (IntKind.u64.wrap (t179)) then (if (Go.bits .and .u64 (shr .u64 x14_2 (IntKind.u64.wrap (t179))) 1) = 1 then (if x16_2 < (x11_1.length : Int) then (culletref01_combine.l1 k2 a1 a2 a3 x10_1 x11_1 x12_1 x13_1 (Go.bits .xor .u64 x14_2 (rd x10_1 x16_2)) (Go.bits .xor .u64 x15_2 (rd x11_1 x16_2)) (wrap64 (x16_2 + 1))) else (none)) else (culletref01_combine.l1 k2 a1 a2 a3 x10_1 x11_1 x12_1 x13_1 x14_2 x15_2 (wrap64 (x16_2 + 1)))) else (none))) else (none)) else (culletref01_combine.l1 k2 a1 a2 a3 x10_1 x11_1 x12_1 x13_1 x14_2 x15_2 (wrap64 (x16_2 + 1)))) = some (r1, r2) := H
        have A11 := Aside0.mk A110
        clear A110
        by_cases c12 : t177 ≥ 0
        ·rw [if_pos c12] at H
         have c12b0 : decide (0 ≤ t177) = true := decide_eq_true c12
         clear c12
         by_cases c13 : 0 ≤ x16_2
         ·rw [if_pos c13] at H
          have c13b0 : decide (0 ≤ x16_2) = true := decide_eq_true c13
          clear c13
          replace H := Option.bind_eq_some_iff.mp H
          obtain ⟨t179, A140, H⟩ := H
          replace H : (if 0 ≤ (IntKind.u64.wrap (t179)) then (if (Go.bits .and .u64 (shr .u64 x14_2 (IntKind.u64.wrap (t179))) 1) = 1 then (if x16_2 < (x11_1.length : Int) then (culletref01_combine.l1 k2 a1 a2 a3 x10_1 x11_1 x12_1 x13_1 (Go.bits .xor .u64 x14_2 (rd x10_1 x16_2)) (Go.bits .xor .u64 x15_2 (rd x11_1 x16_2)) (wrap64 (x16_2 + 1))) else (none)) else (culletref01_combine.l1 k2 a1 a2 a3 x10_1 x11_1 x12_1 x13_1 x14_2 x15_2 (wrap64 (x16_2 + 1)))) else (none)) = some (r1, r2) := H
          have A14 := Aside0.mk A140
          clear A140
          obtain ⟨ji15, hji15⟩ : ∃ j_ : Int, (IntKind.u64.wrap (t179)) = j_ := ⟨_, rfl⟩
          replace H : (if 0 ≤ (ji15) then (if (Go.bits .and .u64 (shr .u64 x14_2 (ji15)) 1) = 1 then (if x16_2 < (x11_1.length : Int) then (culletref01_combine.l1 k2 a1 a2 a3 x10_1 x11_1 x12_1 x13_1 (Go.bits .xor .u64 x14_2 (rd x10_1 x16_2)) (Go.bits .xor .u64 x15_2 (rd x11_1 x16_2)) (wrap64 (x16_2 + 1))) else (none)) else (culletref01_combine.l1 k2 a1 a2 a3 x10_1 x11_1 x12_1 x13_1 x14_2 x15_2 (wrap64 (x16_2 + 1)))) else (none)) = some (r1, r2) := by first | (rw [hji15] at H; exact H) | (simp only [hji15] at H ⊢; exact H)
          (try rw [hji15] at A11)
          (try rw [hji15] at A14)
          by_cases c16 : 0 ≤ (ji15)
          ·rw [if_pos c16] at H
           have c16b0 := eq_true c16
           have c16b1 : decide (0 ≤ (ji15)) = true := decide_eq_true c16
           clear c16
           obtain ⟨ji17, hji17⟩ : ∃ j_ : Int, (shr .u64 x14_2 (ji15)) = j_ := ⟨_, rfl⟩
           replace H : (if (Go.bits .and .u64 (ji17) 1) = 1 then (if x16_2 < (x11_1.length : Int) then (culletref01_combine.l1 k2 a1 a2 a3 x10_1 x11_1 x12_1 x13_1 (Go.bits .xor .u64 x14_2 (rd x10_1 x16_2)) (Go.bits .xor .u64 x15_2 (rd x11_1 x16_2)) (wrap64 (x16_2 + 1))) else (none)) else (culletref01_combine.l1 k2 a1 a2 a3 x10_1 x11_1 x12_1 x13_1 x14_2 x15_2 (wrap64 (x16_2 + 1)))) = some (r1, r2) := by first | (rw [hji17] at H; exact H) | (simp only [hji17] at H ⊢; exact H)
           (try rw [hji17] at A11)
           (try rw [hji17] at A14)
           have hji17_ : (x14_2 / 2 ^ min (ji15).toNat 64) = ji17 := hji17
           have hji17z : (ji15) ≤ 64 → (x14_2 / 2 ^ (ji15).toNat) = ji17 := shr_small hji17
           by_cases c18 : (Go.bits .and .u64 (ji17) 1) = 1
           ·rw [if_pos c18] at H
            have c18b0 : ((Go.bits .and .u64 (ji17) 1) == 1) = true := beq_iff_eq.mpr c18
            have c18b1 : ((Go.bits .and .u64 (ji17) 1) != 1) = false := bne_eq_false_iff_eq.mpr c18
            clear c18
            by_cases c19 : x16_2 < (x11_1.length : Int)
            ·rw [if_pos c19] at H
             have c19b0 : decide (x16_2 < (x11_1.length : Int)) = true := decide_eq_true c19
             clear c19
             have H' := Aside0.mk H
             clear H
             obtain ⟨Ao20, co20, eo20⟩ := Kd.R_slice HO_10.out
             subst eo20
             go_wp2_with (first | ((with_reducible refine gate_callee (f := 18) rfl ?_); refine goesL_ (some 39) rfl rfl Tryd.func18 (by kernel_rfl) rfl #[.int .u64 x14_2] rfl (by (try simp only [List.map_toArray, List.map_cons, List.map_nil]); first | done | rfl | (simp only [tb_wrap8]; done) | (simp only [tb_wrap8]; rfl) | (simp only [List.length_drop, List.length_take]; rfl)) ?_; (with_reducible refine (culletref01_Degree.calls k2 x14_2 t177 _ A11.out).mono ?_); rintro e w' ⟨rfl, ⟨nd, rfl⟩⟩; refine ⟨_, rfl, ?_⟩; have p178 : 0 ≤ (x16_2 : Int) := of_decide_eq_true (by first | (with_reducible assumption) | assumption); have q178 : x16_2 < (x10_1.length : Int) := of_decide_eq_true (by first | (with_reducible assumption) | assumption); obtain ⟨ad178, e178, hx178_0⟩ := Kd.at_int (Kd.R_reads' HO_10.out).2.2 x16_2 p178 q178; cases e178; replace p178 := eq_true p178; replace q178 := eq_true q178) | (go_at_call 18; (with_reducible refine (culletref01_Degree.calls k2 (rd x10_1 x16_2) t179 _ A14.out).mono ?_); rintro e w' ⟨rfl, ⟨nd, rfl⟩⟩; have p180 : 0 ≤ (x16_2 : Int) := of_decide_eq_true (by first | (with_reducible assumption) | assumption); have q180 : x16_2 < (x10_1.length : Int) := of_decide_eq_true (by first | (with_reducible assumption) | assumption); obtain ⟨ad180, e180, hx180_0⟩ := Kd.at_int (Kd.R_reads' HO_10.out).2.2 x16_2 p180 q180; obtain rfl : ad178 = ad180 := (by injection e180); replace p180 := eq_true p180; replace q180 := eq_true q180; obtain ⟨Ao21, co21, eo21⟩ := Kd.R_slice HO_11.out; subst eo21; have p181 : 0 ≤ (x16_2 : Int) := of_decide_eq_true (by first | (with_reducible assumption) | assumption); have q181 : x16_2 < (x11_1.length : Int) := of_decide_eq_true (by first | (with_reducible assumption) | assumption); obtain ⟨ad181, e181, hx181_0⟩ := Kd.at_int (Kd.R_reads' HO_11.out).2.2 x16_2 p181 q181; cases e181; replace p181 := eq_true p181; replace q181 := eq_true q181))
             go_roundg k2
             case measure => have := HK1.out; have := HK2.out; omega
             case rel => exact ⟨(Go.bits .xor .u64 x14_2 (rd x10_1 x16_2)), (Go.bits .xor .u64 x15_2 (rd x11_1 x16_2)), (wrap64 (x16_2 + 1)), (by first | rfl | (simp; done) | (simp [*]; done)), (by first | rfl | (simp; done) | (simp [*]; done)), (by first | rfl | (simp; done) | (simp [*]; done)), H', ⟨by have := HK1.out; have := HK2.out; omega⟩, ⟨by (with_reducible repeat (first | apply Kd.R_alloc | apply Kd.R_drewN | apply Kd.R_drew)); exact HO_10.out⟩, ⟨by (with_reducible repeat (first | apply Kd.R_alloc | apply Kd.R_drewN | apply Kd.R_drew)); exact HO_11.out⟩, ⟨by repeat (first | (with_reducible first | exact HB.out | apply below_alloc | apply pw_below_drewN | apply below_drew1) | exact HB.out)⟩⟩
            ·rw [if_neg c19] at H
             exact absurd H (by simp)
           ·rw [if_neg c18] at H
            have c18b0 : ((Go.bits .and .u64 (ji17) 1) == 1) = false := beq_eq_false_iff_ne.mpr c18
            have c18b1 : ((Go.bits .and .u64 (ji17) 1) != 1) = true := bne_iff_ne.mpr c18
            have H' := Aside0.mk H
            clear H
            obtain ⟨Ao22, co22, eo22⟩ := Kd.R_slice HO_10.out
            subst eo22
            go_wp2_with (first | ((with_reducible refine gate_callee (f := 18) rfl ?_); refine goesL_ (some 39) rfl rfl Tryd.func18 (by kernel_rfl) rfl #[.int .u64 x14_2] rfl (by (try simp only [List.map_toArray, List.map_cons, List.map_nil]); first | done | rfl | (simp only [tb_wrap8]; done) | (simp only [tb_wrap8]; rfl) | (simp only [List.length_drop, List.length_take]; rfl)) ?_; (with_reducible refine (culletref01_Degree.calls k2 x14_2 t177 _ A11.out).mono ?_); rintro e w' ⟨rfl, ⟨nd, rfl⟩⟩; refine ⟨_, rfl, ?_⟩; have p178 : 0 ≤ (x16_2 : Int) := of_decide_eq_true (by first | (with_reducible assumption) | assumption); have q178 : x16_2 < (x10_1.length : Int) := of_decide_eq_true (by first | (with_reducible assumption) | assumption); obtain ⟨ad178, e178, hx178_0⟩ := Kd.at_int (Kd.R_reads' HO_10.out).2.2 x16_2 p178 q178; cases e178; replace p178 := eq_true p178; replace q178 := eq_true q178) | (go_at_call 18; (with_reducible refine (culletref01_Degree.calls k2 (rd x10_1 x16_2) t179 _ A14.out).mono ?_); rintro e w' ⟨rfl, ⟨nd, rfl⟩⟩))
            go_roundg k2
            case measure => have := HK1.out; have := HK2.out; omega
            case rel => exact ⟨(x14_2), (x15_2), (wrap64 (x16_2 + 1)), (by first | rfl | (simp; done) | (simp [*]; done)), (by first | rfl | (simp; done) | (simp [*]; done)), (by first | rfl | (simp; done) | (simp [*]; done)), H', ⟨by have := HK1.out; have := HK2.out; omega⟩, ⟨by (with_reducible repeat (first | apply Kd.R_alloc | apply Kd.R_drewN | apply Kd.R_drew)); exact HO_10.out⟩, ⟨by (with_reducible repeat (first | apply Kd.R_alloc | apply Kd.R_drewN | apply Kd.R_drew)); exact HO_11.out⟩, ⟨by repeat (first | (with_reducible first | exact HB.out | apply below_alloc | apply pw_below_drewN | apply below_drew1) | exact HB.out)⟩⟩
          ·rw [if_neg c16] at H
           exact absurd H (by simp)
         ·rw [if_neg c13] at H
          exact absurd H (by simp)
        ·rw [if_neg c12] at H
         have c12b0 : decide (0 ≤ t177) = false := decide_eq_false c12
         clear c12
         have H' := Aside0.mk H
         clear H
         obtain ⟨Ao23, co23, eo23⟩ := Kd.R_slice HO_10.out
         subst eo23
         go_wp2_with (first | ((with_reducible refine gate_callee (f := 18) rfl ?_); refine goesL_ (some 39) rfl rfl Tryd.func18 (by kernel_rfl) rfl #[.int .u64 x14_2] rfl (by (try simp only [List.map_toArray, List.map_cons, List.map_nil]); first | done | rfl | (simp only [tb_wrap8]; done) | (simp only [tb_wrap8]; rfl) | (simp only [List.length_drop, List.length_take]; rfl)) ?_; (with_reducible refine (culletref01_Degree.calls k2 x14_2 t177 _ A11.out).mono ?_); rintro e w' ⟨rfl, ⟨nd, rfl⟩⟩; refine ⟨_, rfl, ?_⟩))
         go_roundg k2
         case measure => have := HK1.out; have := HK2.out; omega
         case rel => exact ⟨(x14_2), (x15_2), (wrap64 (x16_2 + 1)), (by first | rfl | (simp; done) | (simp [*]; done)), (by first | rfl | (simp; done) | (simp [*]; done)), (by first | rfl | (simp; done) | (simp [*]; done)), H', ⟨by have := HK1.out; have := HK2.out; omega⟩, ⟨by (with_reducible repeat (first | apply Kd.R_alloc | apply Kd.R_drewN | apply Kd.R_drew)); exact HO_10.out⟩, ⟨by (with_reducible repeat (first | apply Kd.R_alloc | apply Kd.R_drewN | apply Kd.R_drew)); exact HO_11.out⟩, ⟨by repeat (first | (with_reducible first | exact HB.out | apply below_alloc | apply pw_below_drewN | apply below_drew1) | exact HB.out)⟩⟩
       ·rw [if_neg c10] at H
        have c10b0 : decide (x16_2 < (x10_1.length : Int)) = false := decide_eq_false c10
        clear c10
        by_cases c24 : x14_2 = 0
        ·rw [if_pos c24] at H
         have c24b0 : (x14_2 == 0) = true := beq_iff_eq.mpr c24
         have c24b1 : (x14_2 != 0) = false := bne_eq_false_iff_eq.mpr c24
         clear c24
         replace H := Option.bind_eq_some_iff.mp H
         obtain ⟨t169, A250, H⟩ := H
         replace H : (culletref01_combine.l0 k2 a1 a2 a3 x10_1 x11_1 t169 (wrap64 (x13_1 + 1))) = some (r1, r2) := H
         have A25 := Aside0.mk A250
         clear A250
         have H' := Aside0.mk H
         clear H
         obtain ⟨Ao26, co26, eo26⟩ := Kd.R_slice HO_10.out
         subst eo26
         go_wp2_with (first | ((with_reducible refine gate_callee (f := 60) rfl ?_); refine goesL_ (some 78) rfl rfl Tryd.func60 (by kernel_rfl) rfl #[.int .u64 (IntKind.u64.wrap (2 * x12_1)), .int .u64 a2] rfl (by (try simp only [List.map_toArray, List.map_cons, List.map_nil]); first | done | rfl | (simp only [tb_wrap8]; done) | (simp only [tb_wrap8]; rfl) | (simp only [List.length_drop, List.length_take]; rfl)) ?_; (with_reducible refine (culletref01_rest.calls k2 (IntKind.u64.wrap (2 * x12_1)) a2 t169 _ A25.out).mono ?_); rintro e w' ⟨rfl, ⟨nd, rfl⟩⟩; refine ⟨_, rfl, ?_⟩))
         go_roundg k2
         case measure => have := HK1.out; have := HK2.out; omega
         case rel => exact ⟨(x10_1), (x11_1), (t169), (wrap64 (x13_1 + 1)), (by first | rfl | (simp; done) | (simp [*]; done)), (by first | rfl | (simp; done) | (simp [*]; done)), H', ⟨by have := HK1.out; have := HK2.out; omega⟩, ⟨by (with_reducible repeat (first | apply Kd.R_alloc | apply Kd.R_drewN | apply Kd.R_drew)); exact HO_10.out⟩, ⟨by (with_reducible repeat (first | apply Kd.R_alloc | apply Kd.R_drewN | apply Kd.R_drew)); exact HO_11.out⟩, ⟨by repeat (first | (with_reducible first | exact HB.out | apply below_alloc | apply pw_below_drewN | apply below_drew1) | exact HB.out)⟩⟩
        ·rw [if_neg c24] at H
         have c24b0 : (x14_2 == 0) = false := beq_eq_false_iff_ne.mpr c24
         have c24b1 : (x14_2 != 0) = true := bne_iff_ne.mpr c24
         by_cases c27 : x10_1.length < 17592186044416
         ·rw [if_pos c27] at H
          have LMc27 := Aside0.mk c27
          clear c27
          obtain ⟨y170, hy170⟩ : ∃ y_ : List Int, y_ = (x10_1 ++ [x14_2]) := ⟨_, rfl⟩
          replace H : (if x11_1.length < 17592186044416 then ((culletref01_rest.f k2 (IntKind.u64.wrap (2 * x12_1)) a2).bind fun t176 => (culletref01_combine.l0 k2 a1 a2 a3 y170 (x11_1 ++ [x15_2]) t176 (wrap64 (x13_1 + 1)))) else (none)) = some (r1, r2) := by first | (rw [hy170]; with_reducible exact H) | (have H2_ := (Option.bind_some _ _).symm.trans H; rw [hy170]; with_reducible exact H2_) | (have H2_ := (Option.bind_some _ _).symm.trans H; with_reducible exact H2_) | with_reducible exact H | (rw [hy170]; exact H) | exact H
          have Ny170 := Aside0.mk hy170
          clear hy170
          by_cases c28 : x11_1.length < 17592186044416
          ·rw [if_pos c28] at H
           have LMc28 := Aside0.mk c28
           clear c28
           obtain ⟨y173, hy173⟩ : ∃ y_ : List Int, y_ = (x11_1 ++ [x15_2]) := ⟨_, rfl⟩
           replace H : ((culletref01_rest.f k2 (IntKind.u64.wrap (2 * x12_1)) a2).bind fun t176 => (culletref01_combine.l0 k2 a1 a2 a3 y170 y173 t176 (wrap64 (x13_1 + 1)))) = some (r1, r2) := by first | (rw [hy173]; with_reducible exact H) | (have H2_ := (Option.bind_some _ _).symm.trans H; rw [hy173]; with_reducible exact H2_) | (have H2_ := (Option.bind_some _ _).symm.trans H; with_reducible exact H2_) | with_reducible exact H | (rw [hy173]; exact H) | exact H
           have Ny173 := Aside0.mk hy173
           clear hy173
           replace H := Option.bind_eq_some_iff.mp H
           obtain ⟨t176, A290, H⟩ := H
           replace H : (culletref01_combine.l0 k2 a1 a2 a3 y170 y173 t176 (wrap64 (x13_1 + 1))) = some (r1, r2) := H
           have A29 := Aside0.mk A290
           clear A290
           have H' := Aside0.mk H
           clear H
           obtain ⟨Ao30, co30, eo30⟩ := Kd.R_slice HO_10.out
           subst eo30
           go_wp2_with (first | ((with_reducible refine gate_builtin (b := .append) (xs := #[.tmp 67, .tmp 69]) rfl ?_); at_builtin; refine Kd.R_append (Kd.int .u64) (w0 := w) w.heap.size rfl (.tmp 67) (.tmp 69) 83 24 (.int .u64 0) 8 rfl Tryd.underlying83 info24 rfl (by decide) (by omega) (.slice Ao30 x10_1.length co30) x10_1 x14_2 [.int .u64 x14_2] (fun k_ => some k_ ≠ (u11 : Value).ownBlock) (fun _ => False) rfl rfl ?aP (fun _ hk => hk.elim) ?aF ?aO ?aB ?aS ?aL ?_; (case aP => exact rfl); (case aB => exact (by repeat (first | (with_reducible first | exact HB.out | apply below_alloc | apply pw_below_drewN | apply below_drew1) | exact HB.out))); (case aF => exact (fun k_ hk => Kd.fresh' (Kd.R_lt (by (with_reducible repeat (first | apply Kd.R_alloc | apply Kd.R_drewN | apply Kd.R_drew)); exact HO_11.out)) k_ hk)); (case aO => exact (by (with_reducible repeat (first | apply Kd.R_alloc | apply Kd.R_drewN | apply Kd.R_drew)); exact HO_10.out)); (case aS => exact (below_size (by repeat (first | (with_reducible first | exact HB.out | apply below_alloc | apply pw_below_drewN | apply below_drew1) | exact HB.out)))); (case aL => have := LMc27.out; omega); intro v171 w31 ho hb hg hat; rw [← Ny170.out] at ho; have n0_ := Aside0.mk (Kd.R_after (ok := (fun _ => True)) (by (with_reducible repeat (first | apply Kd.R_alloc | apply Kd.R_drewN | apply Kd.R_drew)); exact Kd.R_mono HO_11.out (fun _ hk => ⟨trivial, hk⟩)) hg hat); have n1_ := Aside0.mk (hb); have n2_ := Aside0.mk (ho); clear HO_11; clear HB; clear HO_10; have HO_11 := n0_; have HB := n1_; have HO172 := n2_; clear n0_ n1_ n2_; clear ho hb hg hat) | ((with_reducible refine gate_builtin (b := .append) (xs := #[.tmp 71, .tmp 73]) rfl ?_); at_builtin; refine Kd.R_append (Kd.int .u64) (w0 := w) w.heap.size rfl (.tmp 71) (.tmp 73) 83 24 (.int .u64 0) 8 rfl Tryd.underlying83 info24 rfl (by decide) (by omega) u11 x11_1 x15_2 [.int .u64 x15_2] (fun k_ => some k_ ≠ (v171 : Value).ownBlock) (fun _ => False) rfl rfl ?aP (fun _ hk => hk.elim) ?aF ?aO ?aB ?aS ?aL ?_; (case aP => exact rfl); (case aB => exact (by repeat (first | (with_reducible first | exact HB.out | apply below_alloc | apply pw_below_drewN | apply below_drew1) | exact HB.out))); (case aF => exact (fun k_ hk => Kd.fresh' (Kd.R_lt (by (with_reducible repeat (first | apply Kd.R_alloc | apply Kd.R_drewN | apply Kd.R_drew)); exact HO172.out)) k_ hk)); (case aO => exact (by (with_reducible repeat (first | apply Kd.R_alloc | apply Kd.R_drewN | apply Kd.R_drew)); exact Kd.R_mono HO_11.out (fun _ hk => hk.2))); (case aS => exact (below_size (by repeat (first | (with_reducible first | exact HB.out | apply below_alloc | apply pw_below_drewN | apply below_drew1) | exact HB.out)))); (case aL => have := LMc28.out; omega); intro v174 w32 ho hb hg hat; rw [← Ny173.out] at ho; have n0_ := Aside0.mk (Kd.R_after (ok := (fun _ => True)) (by (with_reducible repeat (first | apply Kd.R_alloc | apply Kd.R_drewN | apply Kd.R_drew)); exact Kd.R_mono HO172.out (fun _ hk => ⟨trivial, hk⟩)) hg hat); have n1_ := Aside0.mk (hb); have n2_ := Aside0.mk (ho); clear HO172; clear HB; clear HO_11; have HO172 := n0_; have HB := n1_; have HO175 := n2_; clear n0_ n1_ n2_; clear ho hb hg hat) | ((with_reducible refine gate_callee (f := 60) rfl ?_); refine goesL_ (some 78) rfl rfl Tryd.func60 (by kernel_rfl) rfl #[.int .u64 (IntKind.u64.wrap (2 * x12_1)), .int .u64 a2] rfl (by (try simp only [List.map_toArray, List.map_cons, List.map_nil]); first | done | rfl | (simp only [tb_wrap8]; done) | (simp only [tb_wrap8]; rfl) | (simp only [List.length_drop, List.length_take]; rfl)) ?_; (with_reducible refine (culletref01_rest.calls k2 (IntKind.u64.wrap (2 * x12_1)) a2 t176 _ A29.out).mono ?_); rintro e w' ⟨rfl, ⟨nd, rfl⟩⟩; refine ⟨_, rfl, ?_⟩))
           go_roundg k2
           case measure => have := HK1.out; have := HK2.out; omega
           case rel => exact ⟨(y170), (y173), (t176), (wrap64 (x13_1 + 1)), (by first | rfl | (simp; done) | (simp [*]; done)), (by first | rfl | (simp; done) | (simp [*]; done)), H', ⟨by have := HK1.out; have := HK2.out; omega⟩, ⟨by (with_reducible repeat (first | apply Kd.R_alloc | apply Kd.R_drewN | apply Kd.R_drew)); exact Kd.R_mono HO172.out (fun _ hk => hk.2)⟩, ⟨by (with_reducible repeat (first | apply Kd.R_alloc | apply Kd.R_drewN | apply Kd.R_drew)); exact HO175.out⟩, ⟨by repeat (first | (with_reducible first | exact HB.out | apply below_alloc | apply pw_below_drewN | apply below_drew1) | exact HB.out)⟩⟩
          ·rw [if_neg c28] at H
           exact absurd H (by simp)
         ·rw [if_neg c27] at H
          exact absurd H (by simp)
    ·rw [if_neg c8] at H
     exact absurd H (by simp)
   ·rw [if_neg c6] at H
    have c6b0 : decide (x13_1 < a3) = false := decide_eq_false c6
    clear c6
    replace H := Option.bind_eq_some_iff.mp H
    obtain ⟨t182, A330, H⟩ := H
    replace H : (culletref01_combine.l2 k1 x10_1 x11_1 t182 0 0) = some (r1, r2) := H
    have A33 := Aside0.mk A330
    clear A330
    have H' := Aside0.mk H
    clear H
    go_wp2_with (first | ((with_reducible refine gate_callee (f := 60) rfl ?_); refine goesL_ (some 81) rfl rfl Tryd.func60 (by kernel_rfl) rfl #[.int .u64 a1, .int .u64 a2] rfl (by (try simp only [List.map_toArray, List.map_cons, List.map_nil]); first | done | rfl | (simp only [tb_wrap8]; done) | (simp only [tb_wrap8]; rfl) | (simp only [List.length_drop, List.length_take]; rfl)) ?_; (with_reducible refine (culletref01_rest.calls k1 a1 a2 t182 _ A33.out).mono ?_); rintro e w' ⟨rfl, ⟨nd, rfl⟩⟩; refine ⟨_, rfl, ?_⟩))
    go_loopg [17, 18, 19] k1 (fun kq v17 v18 v19 w' => ∃ (x17_2 : Int) (x18_2 : Int) (x19_2 : Int), v17 = .int .u64 x17_2 ∧ v18 = .int .u64 x18_2 ∧ v19 = .int .i64 x19_2 ∧ Aside0 (culletref01_combine.l2 kq x10_1 x11_1 x17_2 x18_2 x19_2 = some (r1, r2)) ∧ Aside0 (kq ≤ k1) ∧ Aside0 (Kd.R (Kd.int .u64) 24 w' w.heap.size (fun k_ => some k_ ≠ (u11 : Value).ownBlock) u10 x10_1) ∧ Aside0 (Kd.R (Kd.int .u64) 24 w' w.heap.size (fun k_ => some k_ ≠ (u10 : Value).ownBlock) u11 x11_1) ∧ Aside0 (Below w.heap.size w w'))
    case atStart => exact ⟨(t182), (0), (0), (by first | rfl | (simp; done) | (simp [*]; done)), (by first | rfl | (simp; done) | (simp [*]; done)), (by first | rfl | (simp; done) | (simp [*]; done)), H', ⟨Nat.le_refl _⟩, ⟨by (with_reducible repeat (first | apply Kd.R_alloc | apply Kd.R_drewN | apply Kd.R_drew)); exact HO_10.out⟩, ⟨by (with_reducible repeat (first | apply Kd.R_alloc | apply Kd.R_drewN | apply Kd.R_drew)); exact HO_11.out⟩, ⟨by repeat (first | (with_reducible first | exact HB.out | apply below_alloc | apply pw_below_drewN | apply below_drew1) | exact HB.out)⟩⟩
    case round =>
     clear H'
     try clear c1
     try clear p1
     try clear q1
     try clear hx1
     try clear c2
     try clear p2
     try clear c4
     try clear c6
     try clear c6b0
     try clear p6
     try clear c8
     try clear c8b0
     try clear c8b1
     try clear p8
     try clear c10
     try clear c10b0
     try clear c12
     try clear c12b0
     try clear c13
     try clear c13b0
     try clear c16
     try clear c16b0
     try clear c16b1
     try clear p17
     try clear q17
     try clear hx17
     try clear c18
     try clear c18b0
     try clear c18b1
     try clear p18
     try clear q18
     try clear hx18
     try clear c19
     try clear c19b0
     try clear c24
     try clear c24b0
     try clear c24b1
     try clear c27
     try clear c28
     try clear hx178_0
     try clear hx180_0
     try clear hx181_0
     try clear p178
     try clear p180
     try clear p181
     try clear p2
     try clear p8
     try clear q178
     try clear q180
     try clear q181
     obtain ⟨x17_2, x18_2, x19_2, rfl, rfl, rfl, HA, HK2, HO_10, HO_11, HB⟩ := hrel
     cases gk with
     | zero => exact absurd HA.out (by simp [culletref01_combine.l2])
     | succ k2 =>
      have H := HA.out
      clear HA
      simp only [culletref01_combine.l2] at H
      by_cases c34 : x19_2 < (x10_1.length : Int)
      ·rw [if_pos c34] at H
       have c34b0 : decide (x19_2 < (x10_1.length : Int)) = true := decide_eq_true c34
       clear c34
       by_cases c35 : 0 ≤ x19_2
       ·rw [if_pos c35] at H
        have c35b0 : decide (0 ≤ x19_2) = true := decide_eq_true c35
        clear c35
        replace H := Option.bind_eq_some_iff.mp H
        obtain ⟨t184, A360, H⟩ := H
        replace H : (if 0 ≤ (IntKind.u64.wrap (t184)) then (if (Go.bits .and .u64 (shr .u64 x17_2 (IntKind.u64.wrap (t184))) 1) = 1 then (if x19_2 < (x11_1.length : Int) then (culletref01_combine.l2 k2 x10_1 x11_1 (Go.bits .xor .u64 x17_2 (rd x10_1 x19_2)) (Go.bits .xor .u64 x18_2 (rd x11_1 x19_2)) (wrap64 (x19_2 + 1))) else (none)) else (culletref01_combine.l2 k2 x10_1 x11_1 x17_2 x18_2 (wrap64 (x19_2 + 1)))) else (none)) = some (r1, r2) := H
        have A36 := Aside0.mk A360
        clear A360
        obtain ⟨ji37, hji37⟩ : ∃ j_ : Int, (IntKind.u64.wrap (t184)) = j_ := ⟨_, rfl⟩
        replace H : (if 0 ≤ (ji37) then (if (Go.bits .and .u64 (shr .u64 x17_2 (ji37)) 1) = 1 then (if x19_2 < (x11_1.length : Int) then (culletref01_combine.l2 k2 x10_1 x11_1 (Go.bits .xor .u64 x17_2 (rd x10_1 x19_2)) (Go.bits .xor .u64 x18_2 (rd x11_1 x19_2)) (wrap64 (x19_2 + 1))) else (none)) else (culletref01_combine.l2 k2 x10_1 x11_1 x17_2 x18_2 (wrap64 (x19_2 + 1)))) else (none)) = some (r1, r2) := by first | (rw [hji37] at H; exact H) | (simp only [hji37] at H ⊢; exact H)
        (try rw [hji37] at A36)
        by_cases c38 : 0 ≤ (ji37)
        ·rw [if_pos c38] at H
         have c38b0 := eq_true c38
         have c38b1 : decide (0 ≤ (ji37)) = true := decide_eq_true c38
         clear c38
         obtain ⟨ji39, hji39⟩ : ∃ j_ : Int, (shr .u64 x17_2 (ji37)) = j_ := ⟨_, rfl⟩
         replace H : (if (Go.bits .and .u64 (ji39) 1) = 1 then (if x19_2 < (x11_1.length : Int) then (culletref01_combine.l2 k2 x10_1 x11_1 (Go.bits .xor .u64 x17_2 (rd x10_1 x19_2)) (Go.bits .xor .u64 x18_2 (rd x11_1 x19_2)) (wrap64 (x19_2 + 1))) else (none)) else (culletref01_combine.l2 k2 x10_1 x11_1 x17_2 x18_2 (wrap64 (x19_2 + 1)))) = some (r1, r2) := by first | (rw [hji39] at H; exact H) | (simp only [hji39] at H ⊢; exact H)
         (try rw [hji39] at A36)
         have hji39_ : (x17_2 / 2 ^ min (ji37).toNat 64) = ji39 := hji39
         have hji39z : (ji37) ≤ 64 → (x17_2 / 2 ^ (ji37).toNat) = ji39 := shr_small hji39
         by_cases c40 : (Go.bits .and .u64 (ji39) 1) = 1
         ·rw [if_pos c40] at H
          have c40b0 : ((Go.bits .and .u64 (ji39) 1) == 1) = true := beq_iff_eq.mpr c40
          have c40b1 : ((Go.bits .and .u64 (ji39) 1) != 1) = false := bne_eq_false_iff_eq.mpr c40
          clear c40
          by_cases c41 : x19_2 < (x11_1.length : Int)
          ·rw [if_pos c41] at H
           have c41b0 : decide (x19_2 < (x11_1.length : Int)) = true := decide_eq_true c41
           clear c41
           have H' := Aside0.mk H
           clear H
           obtain ⟨Ao42, co42, eo42⟩ := Kd.R_slice HO_10.out
           subst eo42
           have p183 : 0 ≤ (x19_2 : Int) := of_decide_eq_true (by first | (with_reducible assumption) | assumption)
           have q183 : x19_2 < (x10_1.length : Int) := of_decide_eq_true (by first | (with_reducible assumption) | assumption)
           obtain ⟨ad183, e183, hx183_0⟩ := Kd.at_int (Kd.R_reads' HO_10.out).2.2 x19_2 p183 q183
           cases e183
           replace p183 := eq_true p183
           replace q183 := eq_true q183
           go_wp2_with (first | ((with_reducible refine gate_callee (f := 18) rfl ?_); refine goesL_ (some 93) rfl rfl Tryd.func18 (by kernel_rfl) rfl #[.int .u64 (rd x10_1 x19_2)] rfl (by (try simp only [List.map_toArray, List.map_cons, List.map_nil]); first | done | rfl | (simp only [tb_wrap8]; done) | (simp only [tb_wrap8]; rfl) | (simp only [List.length_drop, List.length_take]; rfl)) ?_; (with_reducible refine (culletref01_Degree.calls k2 (rd x10_1 x19_2) t184 _ A36.out).mono ?_); rintro e w' ⟨rfl, ⟨nd, rfl⟩⟩; refine ⟨_, rfl, ?_⟩; have p185 : 0 ≤ (x19_2 : Int) := of_decide_eq_true (by first | (with_reducible assumption) | assumption); have q185 : x19_2 < (x10_1.length : Int) := of_decide_eq_true (by first | (with_reducible assumption) | assumption); obtain ⟨ad185, e185, hx185_0⟩ := Kd.at_int (Kd.R_reads' HO_10.out).2.2 x19_2 p185 q185; obtain rfl : ad183 = ad185 := (by injection e185); replace p185 := eq_true p185; replace q185 := eq_true q185; obtain ⟨Ao43, co43, eo43⟩ := Kd.R_slice HO_11.out; subst eo43; have p186 : 0 ≤ (x19_2 : Int) := of_decide_eq_true (by first | (with_reducible assumption) | assumption); have q186 : x19_2 < (x11_1.length : Int) := of_decide_eq_true (by first | (with_reducible assumption) | assumption); obtain ⟨ad186, e186, hx186_0⟩ := Kd.at_int (Kd.R_reads' HO_11.out).2.2 x19_2 p186 q186; cases e186; replace p186 := eq_true p186; replace q186 := eq_true q186))
           go_roundg k2
           case measure => have := HK1.out; have := HK2.out; omega
           case rel => exact ⟨(Go.bits .xor .u64 x17_2 (rd x10_1 x19_2)), (Go.bits .xor .u64 x18_2 (rd x11_1 x19_2)), (wrap64 (x19_2 + 1)), (by first | rfl | (simp; done) | (simp [*]; done)), (by first | rfl | (simp; done) | (simp [*]; done)), (by first | rfl | (simp; done) | (simp [*]; done)), H', ⟨by have := HK1.out; have := HK2.out; omega⟩, ⟨by (with_reducible repeat (first | apply Kd.R_alloc | apply Kd.R_drewN | apply Kd.R_drew)); exact HO_10.out⟩, ⟨by (with_reducible repeat (first | apply Kd.R_alloc | apply Kd.R_drewN | apply Kd.R_drew)); exact HO_11.out⟩, ⟨by repeat (first | (with_reducible first | exact HB.out | apply below_alloc | apply pw_below_drewN | apply below_drew1) | exact HB.out)⟩⟩
          ·rw [if_neg c41] at H
           exact absurd H (by simp)
         ·rw [if_neg c40] at H
          have c40b0 : ((Go.bits .and .u64 (ji39) 1) == 1) = false := beq_eq_false_iff_ne.mpr c40
          have c40b1 : ((Go.bits .and .u64 (ji39) 1) != 1) = true := bne_iff_ne.mpr c40
          have H' := Aside0.mk H
          clear H
          obtain ⟨Ao44, co44, eo44⟩ := Kd.R_slice HO_10.out
          subst eo44
          have p183 : 0 ≤ (x19_2 : Int) := of_decide_eq_true (by first | (with_reducible assumption) | assumption)
          have q183 : x19_2 < (x10_1.length : Int) := of_decide_eq_true (by first | (with_reducible assumption) | assumption)
          obtain ⟨ad183, e183, hx183_0⟩ := Kd.at_int (Kd.R_reads' HO_10.out).2.2 x19_2 p183 q183
          cases e183
          replace p183 := eq_true p183
          replace q183 := eq_true q183
          go_wp2_with (first | ((with_reducible refine gate_callee (f := 18) rfl ?_); refine goesL_ (some 93) rfl rfl Tryd.func18 (by kernel_rfl) rfl #[.int .u64 (rd x10_1 x19_2)] rfl (by (try simp only [List.map_toArray, List.map_cons, List.map_nil]); first | done | rfl | (simp only [tb_wrap8]; done) | (simp only [tb_wrap8]; rfl) | (simp only [List.length_drop, List.length_take]; rfl)) ?_; (with_reducible refine (culletref01_Degree.calls k2 (rd x10_1 x19_2) t184 _ A36.out).mono ?_); rintro e w' ⟨rfl, ⟨nd, rfl⟩⟩; refine ⟨_, rfl, ?_⟩))
          go_roundg k2
          case measure => have := HK1.out; have := HK2.out; omega
          case rel => exact ⟨(x17_2), (x18_2), (wrap64 (x19_2 + 1)), (by first | rfl | (simp; done) | (simp [*]; done)), (by first | rfl | (simp; done) | (simp [*]; done)), (by first | rfl | (simp; done) | (simp [*]; done)), H', ⟨by have := HK1.out; have := HK2.out; omega⟩, ⟨by (with_reducible repeat (first | apply Kd.R_alloc | apply Kd.R_drewN | apply Kd.R_drew)); exact HO_10.out⟩, ⟨by (with_reducible repeat (first | apply Kd.R_alloc | apply Kd.R_drewN | apply Kd.R_drew)); exact HO_11.out⟩, ⟨by repeat (first | (with_reducible first | exact HB.out | apply below_alloc | apply pw_below_drewN | apply below_drew1) | exact HB.out)⟩⟩
        ·rw [if_neg c38] at H
         exact absurd H (by simp)
       ·rw [if_neg c35] at H
        exact absurd H (by simp)
      ·rw [if_neg c34] at H
       have c34b0 : decide (x19_2 < (x10_1.length : Int)) = false := decide_eq_false c34
       clear c34
       simp only [Option.some.injEq, Prod.mk.injEq] at H
       obtain ⟨rfl, rfl⟩ := H
       obtain ⟨Ao45, co45, eo45⟩ := Kd.R_slice HO_10.out
       subst eo45
       go_wp2
       go_ret2
       exact ⟨by first | rfl | (simp [errW_none, errW_some] <;> rfl) | (simp [*, errW_none, errW_some] <;> rfl), by repeat (first | (with_reducible first | exact HB.out | apply below_alloc | apply pw_below_drewN | apply below_drew1) | exact HB.out)⟩

end Go.Proofs.YthldahaimcdejaaDoor.A
