import Derived.Test.YthldahaimcdejaaDoorZ2
section
-- Printed for this claim by mp.py, a program of its prover, through the kit's print. Lean checks it.
namespace Go.Proofs.YthldahaimcdejaaDoor.A
open Go.RowKit Go.Proofs.YthldahaimcdejaaDoorW.PrintWords Go.Proofs.YthldahaimcdejaaDoorW.PrintLast Go.Proofs.YthldahaimcdejaaDoorW.PrintMore
attribute [local go_sem] max2_int min2_int max_two min_two max_three min_three max_four min_four   -- for this text's walks alone
set_option linter.unusedVariables false
set_option linter.unusedSimpArgs false

/-! ### culletref01_combine: function 48 -/
mutual
def culletref01_combine.l0 : Nat → Int → Int → Int → List Int → List Int → Int → Int → Option (Int × Bool)
 | 0, _, _, _, _, _, _, _ => none
 | k + 1, x1, x2, x3, x10, x11, x12, x13 => if x13 < x3 then (if 0 ≤ (IntKind.u64.wrap (x13)) then (culletref01_combine.l1 k x1 x2 x3 x10 x11 x12 x13 x12 (shl .u64 1 (IntKind.u64.wrap (x13))) 0) else (none)) else ((culletref01_rest.f k x1 x2).bind fun t182 => (culletref01_combine.l2 k x10 x11 t182 0 0))
def culletref01_combine.l1 : Nat → Int → Int → Int → List Int → List Int → Int → Int → Int → Int → Int → Option (Int × Bool)
 | 0, _, _, _, _, _, _, _, _, _, _ => none
 | k + 1, x1, x2, x3, x10, x11, x12, x13, x14, x15, x16 => if x16 < (x10.length : Int) then ((culletref01_Degree.f k x14).bind fun t177 => (if t177 ≥ 0 then (if 0 ≤ x16 then ((culletref01_Degree.f k (rd x10 x16)).bind fun t179 => (if 0 ≤ (IntKind.u64.wrap (t179)) then (if (Go.bits .and .u64 (shr .u64 x14 (IntKind.u64.wrap (t179))) 1) = 1 then (if x16 < (x11.length : Int) then (culletref01_combine.l1 k x1 x2 x3 x10 x11 x12 x13 (Go.bits .xor .u64 x14 (rd x10 x16)) (Go.bits .xor .u64 x15 (rd x11 x16)) (wrap64 (x16 + 1))) else (none)) else (culletref01_combine.l1 k x1 x2 x3 x10 x11 x12 x13 x14 x15 (wrap64 (x16 + 1)))) else (none))) else (none)) else (culletref01_combine.l1 k x1 x2 x3 x10 x11 x12 x13 x14 x15 (wrap64 (x16 + 1))))) else (if x14 = 0 then ((culletref01_rest.f k (IntKind.u64.wrap (2 * x12)) x2).bind fun t169 => (culletref01_combine.l0 k x1 x2 x3 x10 x11 t169 (wrap64 (x13 + 1)))) else (if x10.length < 17592186044416 then (if x11.length < 17592186044416 then ((culletref01_rest.f k (IntKind.u64.wrap (2 * x12)) x2).bind fun t176 => (culletref01_combine.l0 k x1 x2 x3 (x10 ++ [x14]) (x11 ++ [x15]) t176 (wrap64 (x13 + 1)))) else (none)) else (none)))
def culletref01_combine.l2 : Nat → List Int → List Int → Int → Int → Int → Option (Int × Bool)
 | 0, _, _, _, _, _ => none
 | k + 1, x10, x11, x17, x18, x19 => if x19 < (x10.length : Int) then (if 0 ≤ x19 then ((culletref01_Degree.f k (rd x10 x19)).bind fun t184 => (if 0 ≤ (IntKind.u64.wrap (t184)) then (if (Go.bits .and .u64 (shr .u64 x17 (IntKind.u64.wrap (t184))) 1) = 1 then (if x19 < (x11.length : Int) then (culletref01_combine.l2 k x10 x11 (Go.bits .xor .u64 x17 (rd x10 x19)) (Go.bits .xor .u64 x18 (rd x11 x19)) (wrap64 (x19 + 1))) else (none)) else (culletref01_combine.l2 k x10 x11 x17 x18 (wrap64 (x19 + 1)))) else (none))) else (none)) else (some (x18, (x17 == 0)))
end
def culletref01_combine.f (k : Nat) (a0 : Int) (a1 : Int) (a2 : Int) (a3 : Int) : Option (Int × Bool) := (culletref01_rest.f k a0 a2).bind fun t168 => (culletref01_combine.l0 k a1 a2 a3 ([] : List Int) ([] : List Int) t168 0)
theorem culletref01_combine.mono_l : ∀ k, (∀ y0 y1 y2 y3 y4 y5 y6, LeO (culletref01_combine.l0 k y0 y1 y2 y3 y4 y5 y6) (culletref01_combine.l0 (k + 1) y0 y1 y2 y3 y4 y5 y6)) ∧ (∀ y0 y1 y2 y3 y4 y5 y6 y7 y8 y9, LeO (culletref01_combine.l1 k y0 y1 y2 y3 y4 y5 y6 y7 y8 y9) (culletref01_combine.l1 (k + 1) y0 y1 y2 y3 y4 y5 y6 y7 y8 y9)) ∧ (∀ y0 y1 y2 y3 y4, LeO (culletref01_combine.l2 k y0 y1 y2 y3 y4) (culletref01_combine.l2 (k + 1) y0 y1 y2 y3 y4))
 | 0 => ⟨fun _ _ _ _ _ _ _ r h => by simp [culletref01_combine.l0] at h, fun _ _ _ _ _ _ _ _ _ _ r h => by simp [culletref01_combine.l1] at h, fun _ _ _ _ _ r h => by simp [culletref01_combine.l2] at h⟩
 | k + 1 => by
  obtain ⟨ih0, ih1, ih2⟩ := culletref01_combine.mono_l k
  refine ⟨?_, ?_, ?_⟩
  ·intro y0 y1 y2 y3 y4 y5 y6
   unfold culletref01_combine.l0
   repeat' first
   | (with_reducible exact ih0 _ _ _ _ _ _ _)
   | (with_reducible exact ih1 _ _ _ _ _ _ _ _ _ _)
   | (with_reducible exact ih2 _ _ _ _ _)
   | (with_reducible exact culletref01_Degree.mono _ _)
   | (with_reducible exact culletref01_rest.mono _ _ _)
   | (with_reducible exact LeO.refl _)
   | (with_reducible exact LeO.none _)
   | (with_reducible refine LeO.ite ?_ ?_)
   | (with_reducible refine LeO.bind ?_ (fun _ => ?_))
   | exact ih0 _ _ _ _ _ _ _
   | exact ih1 _ _ _ _ _ _ _ _ _ _
   | exact ih2 _ _ _ _ _
   | exact culletref01_Degree.mono _ _
   | exact culletref01_rest.mono _ _ _
   | exact LeO.none _
   | refine LeO.ite ?_ ?_
   | refine LeO.bind ?_ (fun _ => ?_)
  ·intro y0 y1 y2 y3 y4 y5 y6 y7 y8 y9
   unfold culletref01_combine.l1
   repeat' first
   | (with_reducible exact ih0 _ _ _ _ _ _ _)
   | (with_reducible exact ih1 _ _ _ _ _ _ _ _ _ _)
   | (with_reducible exact ih2 _ _ _ _ _)
   | (with_reducible exact culletref01_Degree.mono _ _)
   | (with_reducible exact culletref01_rest.mono _ _ _)
   | (with_reducible exact LeO.refl _)
   | (with_reducible exact LeO.none _)
   | (with_reducible refine LeO.ite ?_ ?_)
   | (with_reducible refine LeO.bind ?_ (fun _ => ?_))
   | exact ih0 _ _ _ _ _ _ _
   | exact ih1 _ _ _ _ _ _ _ _ _ _
   | exact ih2 _ _ _ _ _
   | exact culletref01_Degree.mono _ _
   | exact culletref01_rest.mono _ _ _
   | exact LeO.none _
   | refine LeO.ite ?_ ?_
   | refine LeO.bind ?_ (fun _ => ?_)
  ·intro y0 y1 y2 y3 y4
   unfold culletref01_combine.l2
   repeat' first
   | (with_reducible exact ih0 _ _ _ _ _ _ _)
   | (with_reducible exact ih1 _ _ _ _ _ _ _ _ _ _)
   | (with_reducible exact ih2 _ _ _ _ _)
   | (with_reducible exact culletref01_Degree.mono _ _)
   | (with_reducible exact culletref01_rest.mono _ _ _)
   | (with_reducible exact LeO.refl _)
   | (with_reducible exact LeO.none _)
   | (with_reducible refine LeO.ite ?_ ?_)
   | (with_reducible refine LeO.bind ?_ (fun _ => ?_))
   | exact ih0 _ _ _ _ _ _ _
   | exact ih1 _ _ _ _ _ _ _ _ _ _
   | exact ih2 _ _ _ _ _
   | exact culletref01_Degree.mono _ _
   | exact culletref01_rest.mono _ _ _
   | exact LeO.none _
   | refine LeO.ite ?_ ?_
   | refine LeO.bind ?_ (fun _ => ?_)
theorem culletref01_combine.mono : ∀ a0 a1 a2 a3 k, LeO (culletref01_combine.f k a0 a1 a2 a3) (culletref01_combine.f (k + 1) a0 a1 a2 a3) := by
 intro a0 a1 a2 a3 k
 obtain ⟨ih0, ih1, ih2⟩ := culletref01_combine.mono_l k
 unfold culletref01_combine.f
 repeat' first
   | (with_reducible exact ih0 _ _ _ _ _ _ _)
   | (with_reducible exact ih1 _ _ _ _ _ _ _ _ _ _)
   | (with_reducible exact ih2 _ _ _ _ _)
   | (with_reducible exact culletref01_Degree.mono _ _)
   | (with_reducible exact culletref01_rest.mono _ _ _)
   | (with_reducible exact LeO.refl _)
   | (with_reducible exact LeO.none _)
   | (with_reducible refine LeO.ite ?_ ?_)
   | (with_reducible refine LeO.bind ?_ (fun _ => ?_))
   | exact ih0 _ _ _ _ _ _ _
   | exact ih1 _ _ _ _ _ _ _ _ _ _
   | exact ih2 _ _ _ _ _
   | exact culletref01_Degree.mono _ _
   | exact culletref01_rest.mono _ _ _
   | exact LeO.none _
   | refine LeO.ite ?_ ?_
   | refine LeO.bind ?_ (fun _ => ?_)
set_option maxHeartbeats 8000000 in
set_option maxRecDepth 100000 in
theorem culletref01_combine.calls (k : Nat) (a0 : Int) (a1 : Int) (a2 : Int) (a3 : Int) (r1 : Int) (r2 : Bool) (w : World) (h : culletref01_combine.f k a0 a1 a2 a3 = some (r1, r2)) :
  Calls Tryd.prog 48 #[.int .u64 a0, .int .u64 a1, .int .u64 a2, .int .i64 a3] w fun e w' => e = .returned (.tuple #[.int .u64 r1, .bool r2]) ∧ Below w.heap.size w w' := by
 have HB := Aside0.mk (Below.refl w.heap.size w)
 have H : ((culletref01_rest.f k a0 a2).bind fun t168 => (culletref01_combine.l0 k a1 a2 a3 ([] : List Int) ([] : List Int) t168 0)) = some (r1, r2) := h
 clear h
 replace H := Option.bind_eq_some_iff.mp H
 obtain ⟨t168, A50, H⟩ := H
 replace H : (culletref01_combine.l0 k a1 a2 a3 ([] : List Int) ([] : List Int) t168 0) = some (r1, r2) := H
 have A5 := Aside0.mk A50
 clear A50
 have H' := Aside0.mk H
 clear H
 go_enter Tryd.func48, Tryd.ntmps48
 go_wp2_with (first | ((with_reducible refine gate_callee (f := 60) rfl ?_); refine goesL_ (some 22) rfl rfl Tryd.func60 (by kernel_rfl) rfl #[.int .u64 a0, .int .u64 a2] rfl (by (try simp only [List.map_toArray, List.map_cons, List.map_nil]); first | done | rfl | (simp only [tb_wrap8]; done) | (simp only [tb_wrap8]; rfl) | (simp only [List.length_drop, List.length_take]; rfl)) ?_; (with_reducible refine (culletref01_rest.calls k a0 a2 t168 _ A5.out).mono ?_); rintro e w' ⟨rfl, ⟨nd, rfl⟩⟩; refine ⟨_, rfl, ?_⟩))
 go_loopg [10, 11, 12, 13] k (fun kq v10 v11 v12 v13 w' => ∃ (x10_1 : List Int) (x11_1 : List Int) (x12_1 : Int) (x13_1 : Int), v12 = .int .u64 x12_1 ∧ v13 = .int .i64 x13_1 ∧ Aside0 (culletref01_combine.l0 kq a1 a2 a3 x10_1 x11_1 x12_1 x13_1 = some (r1, r2)) ∧ Aside0 (kq ≤ k) ∧ Aside0 (Kd.R (Kd.int .u64) 24 w' w.heap.size (fun k_ => some k_ ≠ (v11 : Value).ownBlock) v10 x10_1) ∧ Aside0 (Kd.R (Kd.int .u64) 24 w' w.heap.size (fun k_ => some k_ ≠ (v10 : Value).ownBlock) v11 x11_1) ∧ Aside0 (Below w.heap.size w w'))
 case atStart => exact ⟨(([] : List Int)), (([] : List Int)), (t168), (0), (by first | rfl | (simp; done) | (simp [*]; done)), (by first | rfl | (simp; done) | (simp [*]; done)), H', ⟨Nat.le_refl _⟩, ⟨by first | exact Kd.R_nil _ _ _ _ _ | exact Kd.N_nil _ _ _ _ _ | exact Kd.V_nil _ _ _ _ _ | exact Kd.Q_nil _ _ _ _ _ | exact Kd.S_nil _ _ _ _ _⟩, ⟨by first | exact Kd.R_nil _ _ _ _ _ | exact Kd.N_nil _ _ _ _ _ | exact Kd.V_nil _ _ _ _ _ | exact Kd.Q_nil _ _ _ _ _ | exact Kd.S_nil _ _ _ _ _⟩, ⟨by repeat (first | (with_reducible first | exact HB.out | apply below_alloc | apply pw_below_drewN | apply below_drew1) | exact HB.out)⟩⟩
 case round =>
  clear H'
  try clear p2
  try clear c4
  obtain ⟨x10_1, x11_1, x12_1, x13_1, rfl, rfl, HA, HK1, HO_10, HO_11, HB⟩ := hrel
  cases gk with
  | zero => exact absurd HA.out (by simp [culletref01_combine.l0])
  | succ k1 =>
   have H := HA.out
   clear HA
   simp only [culletref01_combine.l0] at H
   by_cases c6 : x13_1 < a3
   ·rw [if_pos c6] at H
    have c6b0 : decide (x13_1 < a3) = true := decide_eq_true c6
    clear c6
    obtain ⟨ji7, hji7⟩ : ∃ j_ : Int, (IntKind.u64.wrap (x13_1)) = j_ := ⟨_, rfl⟩
    replace H : (if 0 ≤ (ji7) then (culletref01_combine.l1 k1 a1 a2 a3 x10_1 x11_1 x12_1 x13_1 x12_1 (shl .u64 1 (ji7)) 0) else (none)) = some (r1, r2) := by first | (rw [hji7] at H; exact H) | (simp only [hji7] at H ⊢; exact H)
    by_cases c8 : 0 ≤ (ji7)
    ·rw [if_pos c8] at H
     have c8b0 := eq_true c8
     have c8b1 : decide (0 ≤ (ji7)) = true := decide_eq_true c8
     clear c8
     obtain ⟨ji9, hji9⟩ : ∃ j_ : Int, (shl .u64 1 (ji7)) = j_ := ⟨_, rfl⟩
     replace H : (culletref01_combine.l1 k1 a1 a2 a3 x10_1 x11_1 x12_1 x13_1 x12_1 ji9 0) = some (r1, r2) := by first | (rw [hji9] at H; exact H) | (simp only [hji9] at H ⊢; exact H)
     have hji9_ : (IntKind.u64.wrap (1 * 2 ^ min (ji7).toNat 64)) = ji9 := hji9
     have hji9z : (ji7) ≤ 64 → (IntKind.u64.wrap (1 * 2 ^ (ji7).toNat)) = ji9 := shl_small hji9
     have hji9u : (IntKind.u64.wrap (2 ^ min (ji7).toNat 64)) = ji9 := by have h_ := hji9_; rw [Int.one_mul] at h_; exact h_
     have hji9v : (ji7) ≤ 64 → (IntKind.u64.wrap (2 ^ (ji7).toNat)) = ji9 := fun hle_ => by have h_ := hji9z hle_; rw [Int.one_mul] at h_; exact h_
     have H' := Aside0.mk H
     clear H
     go_wp2
     go_loopg [14, 15, 16] k1 (fun kq v14 v15 v16 w' => ∃ (x14_2 : Int) (x15_2 : Int) (x16_2 : Int), v14 = .int .u64 x14_2 ∧ v15 = .int .u64 x15_2 ∧ v16 = .int .i64 x16_2 ∧ Aside0 (culletref01_combine.l1 kq a1 a2 a3 x10_1 x11_1 x12_1 x13_1 x14_2 x15_2 x16_2 = some (r1, r2)) ∧ Aside0 (kq ≤ k1) ∧ Aside0 (Kd.R (Kd.int .u64) 24 w' w.heap.size (fun k_ => some k_ ≠ (u11 : Value).ownBlock) u10 x10_1) ∧ Aside0 (Kd.R (Kd.int .u64) 24 w' w.heap.size (fun k_ => some k_ ≠ (u10 : Value).ownBlock) u11 x11_1) ∧ Aside0 (Below w.heap.size w w'))
     case atStart => exact ⟨(x12_1), (ji9), (0), (by first | rfl | (simp; done) | (simp [*]; done)), (by first | rfl | (simp; done) | (simp only [← hji9] <;> (first | rfl | simp)) | (simp [*]; done)), (by first | rfl | (simp; done) | (simp [*]; done)), H', ⟨Nat.le_refl _⟩, ⟨by (with_reducible repeat (first | apply Kd.R_alloc | apply Kd.R_drewN | apply Kd.R_drew)); exact HO_10.out⟩, ⟨by (with_reducible repeat (first | apply Kd.R_alloc | apply Kd.R_drewN | apply Kd.R_drew)); exact HO_11.out⟩, ⟨by repeat (first | (with_reducible first | exact HB.out | apply below_alloc | apply pw_below_drewN | apply below_drew1) | exact HB.out)⟩⟩
     case round =>
      clear H'
      try clear p2
      try clear c4
      try clear c6
      try clear c6b0
      try clear c8
      try clear c8b0
      try clear c8b1
      try clear p8
      try clear p2
      obtain ⟨x14_2, x15_2, x16_2, rfl, rfl, rfl, HA, HK2, HO_10, HO_11, HB⟩ := hrel
      cases gk with
      | zero => exact absurd HA.out (by simp [culletref01_combine.l1])
      | succ k2 =>
       have H := HA.out
       clear HA
       simp only [culletref01_combine.l1] at H
       by_cases c10 : x16_2 < (x10_1.length : Int)
       ·rw [if_pos c10] at H
        have c10b0 : decide (x16_2 < (x10_1.length : Int)) = true := decide_eq_true c10
        clear c10
        replace H := Option.bind_eq_some_iff.mp H
        obtain ⟨t177, A110, H⟩ := H
        replace H : (if t177 ≥ 0 then (if 0 ≤ x16_2 then ((culletref01_Degree.f k2 (rd x10_1 x16_2)).bind fun t179 => (if 0 ≤ (IntKind.u64.wrap (t179)) then (if (Go.bits .and .u64 (shr .u64 x14_2 (IntKind.u64.wrap (t179))) 1) = 1 then (if x16_2 < (x11_1.length : Int) then (culletref01_combine.l1 k2 a1 a2 a3 x10_1 x11_1 x12_1 x13_1 (Go.bits .xor .u64 x14_2 (rd x10_1 x16_2)) (Go.bits .xor .u64 x15_2 (rd x11_1 x16_2)) (wrap64 (x16_2 + 1))) else (none)) else (culletref01_combine.l1 k2 a1 a2 a3 x10_1 x11_1 x12_1 x13_1 x14_2 x15_2 (wrap64 (x16_2 + 1)))) else (none))) else (none)) else (culletref01_combine.l1 k2 a1 a2 a3 x10_1 x11_1 x12_1 x13_1 x14_2 x15_2 (wrap64 (x16_2 + 1)))) = some (r1, r2) := H
        have A11 := Aside0.mk A110
        clear A110
        by_cases c12 : t177 ≥ 0
        ·rw [if_pos c12] at H
         have c12b0 : decide (0 ≤ t177) = true := decide_eq_true c12
         clear c12
         by_cases c13 : 0 ≤ x16_2
         ·rw [if_pos c13] at H
          have c13b0 : decide (0 ≤ x16_2) = true := decide_eq_true c13
          clear c13
          replace H := Option.bind_eq_some_iff.mp H
          obtain ⟨t179, A140, H⟩ := H
          replace H : (if 0 ≤ (IntKind.u64.wrap (t179)) then (if (Go.bits .and .u64 (shr .u64 x14_2 (IntKind.u64.wrap (t179))) 1) = 1 then (if x16_2 < (x11_1.length : Int) then (culletref01_combine.l1 k2 a1 a2 a3 x10_1 x11_1 x12_1 x13_1 (Go.bits .xor .u64 x14_2 (rd x10_1 x16_2)) (Go.bits .xor .u64 x15_2 (rd x11_1 x16_2)) (wrap64 (x16_2 + 1))) else (none)) else (culletref01_combine.l1 k2 a1 a2 a3 x10_1 x11_1 x12_1 x13_1 x14_2 x15_2 (wrap64 (x16_2 + 1)))) else (none)) = some (r1, r2) := H
          have A14 := Aside0.mk A140
          clear A140
          obtain ⟨ji15, hji15⟩ : ∃ j_ : Int, (IntKind.u64.wrap (t179)) = j_ := ⟨_, rfl⟩
          replace H : (if 0 ≤ (ji15) then (if (Go.bits .and .u64 (shr .u64 x14_2 (ji15)) 1) = 1 then (if x16_2 < (x11_1.length : Int) then (culletref01_combine.l1 k2 a1 a2 a3 x10_1 x11_1 x12_1 x13_1 (Go.bits .xor .u64 x14_2 (rd x10_1 x16_2)) (Go.bits .xor .u64 x15_2 (rd x11_1 x16_2)) (wrap64 (x16_2 + 1))) else (none)) else (culletref01_combine.l1 k2 a1 a2 a3 x10_1 x11_1 x12_1 x13_1 x14_2 x15_2 (wrap64 (x16_2 + 1)))) else (none)) = some (r1, r2) := by first | (rw [hji15] at H; exact H) | (simp only [hji15] at H ⊢; exact H)
          (try rw [hji15] at A11)
          (try rw [hji15] at A14)
          by_cases c16 : 0 ≤ (ji15)
          ·rw [if_pos c16] at H
           have c16b0 := eq_true c16
           have c16b1 : decide (0 ≤ (ji15)) = true := decide_eq_true c16
           clear c16
           obtain ⟨ji17, hji17⟩ : ∃ j_ : Int, (shr .u64 x14_2 (ji15)) = j_ := ⟨_, rfl⟩
           replace H : (if (Go.bits .and .u64 (ji17) 1) = 1 then (if x16_2 < (x11_1.length : Int) then (culletref01_combine.l1 k2 a1 a2 a3 x10_1 x11_1 x12_1 x13_1 (Go.bits .xor .u64 x14_2 (rd x10_1 x16_2)) (Go.bits .xor .u64 x15_2 (rd x11_1 x16_2)) (wrap64 (x16_2 + 1))) else (none)) else (culletref01_combine.l1 k2 a1 a2 a3 x10_1 x11_1 x12_1 x13_1 x14_2 x15_2 (wrap64 (x16_2 + 1)))) = some (r1, r2) := by first | (rw [hji17] at H; exact H) | (simp only [hji17] at H ⊢; exact H)
           (try rw [hji17] at A11)
           (try rw [hji17] at A14)
           have hji17_ : (x14_2 / 2 ^ min (ji15).toNat 64) = ji17 := hji17
           have hji17z : (ji15) ≤ 64 → (x14_2 / 2 ^ (ji15).toNat) = ji17 := shr_small hji17
           by_cases c18 : (Go.bits .and .u64 (ji17) 1) = 1
           ·rw [if_pos c18] at H
            have c18b0 : ((Go.bits .and .u64 (ji17) 1) == 1) = true := beq_iff_eq.mpr c18
            have c18b1 : ((Go.bits .and .u64 (ji17) 1) != 1) = false := bne_eq_false_iff_eq.mpr c18
            clear c18
            by_cases c19 : x16_2 < (x11_1.length : Int)
            ·rw [if_pos c19] at H
             have c19b0 : decide (x16_2 < (x11_1.length : Int)) = true := decide_eq_true c19
             clear c19
             have H' := Aside0.mk H
             clear H
             obtain ⟨Ao20, co20, eo20⟩ := Kd.R_slice HO_10.out
             subst eo20
             go_wp2_with (first | ((with_reducible refine gate_callee (f := 18) rfl ?_); refine goesL_ (some 39) rfl rfl Tryd.func18 (by kernel_rfl) rfl #[.int .u64 x14_2] rfl (by (try simp only [List.map_toArray, List.map_cons, List.map_nil]); first | done | rfl | (simp only [tb_wrap8]; done) | (simp only [tb_wrap8]; rfl) | (simp only [List.length_drop, List.length_take]; rfl)) ?_; (with_reducible refine (culletref01_Degree.calls k2 x14_2 t177 _ A11.out).mono ?_); rintro e w' ⟨rfl, ⟨nd, rfl⟩⟩; refine ⟨_, rfl, ?_⟩; have p178 : 0 ≤ (x16_2 : Int) := of_decide_eq_true (by first | (with_reducible assumption) | assumption); have q178 : x16_2 < (x10_1.length : Int) := of_decide_eq_true (by first | (with_reducible assumption) | assumption); obtain ⟨ad178, e178, hx178_0⟩ := Kd.at_int (Kd.R_reads' HO_10.out).2.2 x16_2 p178 q178; cases e178; replace p178 := eq_true p178; replace q178 := eq_true q178) | (go_at_call 18; (with_reducible refine (culletref01_Degree.calls k2 (rd x10_1 x16_2) t179 _ A14.out).mono ?_); rintro e w' ⟨rfl, ⟨nd, rfl⟩⟩; have p180 : 0 ≤ (x16_2 : Int) := of_decide_eq_true (by first | (with_reducible assumption) | assumption); have q180 : x16_2 < (x10_1.length : Int) := of_decide_eq_true (by first | (with_reducible assumption) | assumption); obtain ⟨ad180, e180, hx180_0⟩ := Kd.at_int (Kd.R_reads' HO_10.out).2.2 x16_2 p180 q180; obtain rfl : ad178 = ad180 := (by injection e180); replace p180 := eq_true p180; replace q180 := eq_true q180; obtain ⟨Ao21, co21, eo21⟩ := Kd.R_slice HO_11.out; subst eo21; have p181 : 0 ≤ (x16_2 : Int) := of_decide_eq_true (by first | (with_reducible assumption) | assumption); have q181 : x16_2 < (x11_1.length : Int) := of_decide_eq_true (by first | (with_reducible assumption) | assumption); obtain ⟨ad181, e181, hx181_0⟩ := Kd.at_int (Kd.R_reads' HO_11.out).2.2 x16_2 p181 q181; cases e181; replace p181 := eq_true p181; replace q181 := eq_true q181))
             go_roundg k2
             case measure => have := HK1.out; have := HK2.out; omega
             case rel => exact ⟨(Go.bits .xor .u64 x14_2 (rd x10_1 x16_2)), (Go.bits .xor .u64 x15_2 (rd x11_1 x16_2)), (wrap64 (x16_2 + 1)), (by first | rfl | (simp; done) | (simp [*]; done)), (by first | rfl | (simp; done) | (simp [*]; done)), (by first | rfl | (simp; done) | (simp [*]; done)), H', ⟨by have := HK1.out; have := HK2.out; omega⟩, ⟨by (with_reducible repeat (first | apply Kd.R_alloc | apply Kd.R_drewN | apply Kd.R_drew)); exact HO_10.out⟩, ⟨by (with_reducible repeat (first | apply Kd.R_alloc | apply Kd.R_drewN | apply Kd.R_drew)); exact HO_11.out⟩, ⟨by repeat (first | (with_reducible first | exact HB.out | apply below_alloc | apply pw_below_drewN | apply below_drew1) | exact HB.out)⟩⟩
            ·rw [if_neg c19] at H
             exact absurd H (by simp)
           ·rw [if_neg c18] at H
            have c18b0 : ((Go.bits .and .u64 (ji17) 1) == 1) = false := beq_eq_false_iff_ne.mpr c18
            have c18b1 : ((Go.bits .and .u64 (ji17) 1) != 1) = true := bne_iff_ne.mpr c18
            have H' := Aside0.mk H
            clear H
            obtain ⟨Ao22, co22, eo22⟩ := Kd.R_slice HO_10.out
            subst eo22
            go_wp2_with (first | ((with_reducible refine gate_callee (f := 18) rfl ?_); refine goesL_ (some 39) rfl rfl Tryd.func18 (by kernel_rfl) rfl #[.int .u64 x14_2] rfl (by (try simp only [List.map_toArray, List.map_cons, List.map_nil]); first | done | rfl | (simp only [tb_wrap8]; done) | (simp only [tb_wrap8]; rfl) | (simp only [List.length_drop, List.length_take]; rfl)) ?_; (with_reducible refine (culletref01_Degree.calls k2 x14_2 t177 _ A11.out).mono ?_); rintro e w' ⟨rfl, ⟨nd, rfl⟩⟩; refine ⟨_, rfl, ?_⟩; have p178 : 0 ≤ (x16_2 : Int) := of_decide_eq_true (by first | (with_reducible assumption) | assumption); have q178 : x16_2 < (x10_1.length : Int) := of_decide_eq_true (by first | (with_reducible assumption) | assumption); obtain ⟨ad178, e178, hx178_0⟩ := Kd.at_int (Kd.R_reads' HO_10.out).2.2 x16_2 p178 q178; cases e178; replace p178 := eq_true p178; replace q178 := eq_true q178) | (go_at_call 18; (with_reducible refine (culletref01_Degree.calls k2 (rd x10_1 x16_2) t179 _ A14.out).mono ?_); rintro e w' ⟨rfl, ⟨nd, rfl⟩⟩))
            go_roundg k2
            case measure => have := HK1.out; have := HK2.out; omega
            case rel => exact ⟨(x14_2), (x15_2), (wrap64 (x16_2 + 1)), (by first | rfl | (simp; done) | (simp [*]; done)), (by first | rfl | (simp; done) | (simp [*]; done)), (by first | rfl | (simp; done) | (simp [*]; done)), H', ⟨by have := HK1.out; have := HK2.out; omega⟩, ⟨by (with_reducible repeat (first | apply Kd.R_alloc | apply Kd.R_drewN | apply Kd.R_drew)); exact HO_10.out⟩, ⟨by (with_reducible repeat (first | apply Kd.R_alloc | apply Kd.R_drewN | apply Kd.R_drew)); exact HO_11.out⟩, ⟨by repeat (first | (with_reducible first | exact HB.out | apply below_alloc | apply pw_below_drewN | apply below_drew1) | exact HB.out)⟩⟩
          ·rw [if_neg c16] at H
           exact absurd H (by simp)
         ·rw [if_neg c13] at H
          exact absurd H (by simp)
        ·rw [if_neg c12] at H
         have c12b0 : decide (0 ≤ t177) = false := decide_eq_false c12
         clear c12
         have H' := Aside0.mk H
         clear H
         obtain ⟨Ao23, co23, eo23⟩ := Kd.R_slice HO_10.out
         subst eo23
         go_wp2_with (first | ((with_reducible refine gate_callee (f := 18) rfl ?_); refine goesL_ (some 39) rfl rfl Tryd.func18 (by kernel_rfl) rfl #[.int .u64 x14_2] rfl (by (try simp only [List.map_toArray, List.map_cons, List.map_nil]); first | done | rfl | (simp only [tb_wrap8]; done) | (simp only [tb_wrap8]; rfl) | (simp only [List.length_drop, List.length_take]; rfl)) ?_; (with_reducible refine (culletref01_Degree.calls k2 x14_2 t177 _ A11.out).mono ?_); rintro e w' ⟨rfl, ⟨nd, rfl⟩⟩; refine ⟨_, rfl, ?_⟩))
         go_roundg k2
         case measure => have := HK1.out; have := HK2.out; omega
         case rel => exact ⟨(x14_2), (x15_2), (wrap64 (x16_2 + 1)), (by first | rfl | (simp; done) | (simp [*]; done)), (by first | rfl | (simp; done) | (simp [*]; done)), (by first | rfl | (simp; done) | (simp [*]; done)), H', ⟨by have := HK1.out; have := HK2.out; omega⟩, ⟨by (with_reducible repeat (first | apply Kd.R_alloc | apply Kd.R_drewN | apply Kd.R_drew)); exact HO_10.out⟩, ⟨by (with_reducible repeat (first | apply Kd.R_alloc | apply Kd.R_drewN | apply Kd.R_drew)); exact HO_11.out⟩, ⟨by repeat (first | (with_reducible first | exact HB.out | apply below_alloc | apply pw_below_drewN | apply below_drew1) | exact HB.out)⟩⟩
       ·rw [if_neg c10] at H
        have c10b0 : decide (x16_2 < (x10_1.length : Int)) = false := decide_eq_false c10
        clear c10
        by_cases c24 : x14_2 = 0
        ·rw [if_pos c24] at H
         have c24b0 : (x14_2 == 0) = true := beq_iff_eq.mpr c24
         have c24b1 : (x14_2 != 0) = false := bne_eq_false_iff_eq.mpr c24
         clear c24
         replace H := Option.bind_eq_some_iff.mp H
         obtain ⟨t169, A250, H⟩ := H
         replace H : (culletref01_combine.l0 k2 a1 a2 a3 x10_1 x11_1 t169 (wrap64 (x13_1 + 1))) = some (r1, r2) := H
         have A25 := Aside0.mk A250
         clear A250
         have H' := Aside0.mk H
         clear H
         obtain ⟨Ao26, co26, eo26⟩ := Kd.R_slice HO_10.out
         subst eo26
         go_wp2_with (first | ((with_reducible refine gate_callee (f := 60) rfl ?_); refine goesL_ (some 78) rfl rfl Tryd.func60 (by kernel_rfl) rfl #[.int .u64 (IntKind.u64.wrap (2 * x12_1)), .int .u64 a2] rfl (by (try simp only [List.map_toArray, List.map_cons, List.map_nil]); first | done | rfl | (simp only [tb_wrap8]; done) | (simp only [tb_wrap8]; rfl) | (simp only [List.length_drop, List.length_take]; rfl)) ?_; (with_reducible refine (culletref01_rest.calls k2 (IntKind.u64.wrap (2 * x12_1)) a2 t169 _ A25.out).mono ?_); rintro e w' ⟨rfl, ⟨nd, rfl⟩⟩; refine ⟨_, rfl, ?_⟩))
         go_roundg k2
         case measure => have := HK1.out; have := HK2.out; omega
         case rel => exact ⟨(x10_1), (x11_1), (t169), (wrap64 (x13_1 + 1)), (by first | rfl | (simp; done) | (simp [*]; done)), (by first | rfl | (simp; done) | (simp [*]; done)), H', ⟨by have := HK1.out; have := HK2.out; omega⟩, ⟨by (with_reducible repeat (first | apply Kd.R_alloc | apply Kd.R_drewN | apply Kd.R_drew)); exact HO_10.out⟩, ⟨by (with_reducible repeat (first | apply Kd.R_alloc | apply Kd.R_drewN | apply Kd.R_drew)); exact HO_11.out⟩, ⟨by repeat (first | (with_reducible first | exact HB.out | apply below_alloc | apply pw_below_drewN | apply below_drew1) | exact HB.out)⟩⟩
        ·rw [if_neg c24] at H
         have c24b0 : (x14_2 == 0) = false := beq_eq_false_iff_ne.mpr c24
         have c24b1 : (x14_2 != 0) = true := bne_iff_ne.mpr c24
         by_cases c27 : x10_1.length < 17592186044416
         ·rw [if_pos c27] at H
          have LMc27 := Aside0.mk c27
          clear c27
          obtain ⟨y170, hy170⟩ : ∃ y_ : List Int, y_ = (x10_1 ++ [x14_2]) := ⟨_, rfl⟩
          replace H : (if x11_1.length < 17592186044416 then ((culletref01_rest.f k2 (IntKind.u64.wrap (2 * x12_1)) a2).bind fun t176 => (culletref01_combine.l0 k2 a1 a2 a3 y170 (x11_1 ++ [x15_2]) t176 (wrap64 (x13_1 + 1)))) else (none)) = some (r1, r2) := by first | (rw [hy170]; with_reducible exact H) | (have H2_ := (Option.bind_some _ _).symm.trans H; rw [hy170]; with_reducible exact H2_) | (have H2_ := (Option.bind_some _ _).symm.trans H; with_reducible exact H2_) | with_reducible exact H | (rw [hy170]; exact H) | exact H
          have Ny170 := Aside0.mk hy170
          clear hy170
          by_cases c28 : x11_1.length < 17592186044416
          ·rw [if_pos c28] at H
           have LMc28 := Aside0.mk c28
           clear c28
           obtain ⟨y173, hy173⟩ : ∃ y_ : List Int, y_ = (x11_1 ++ [x15_2]) := ⟨_, rfl⟩
           replace H : ((culletref01_rest.f k2 (IntKind.u64.wrap (2 * x12_1)) a2).bind fun t176 => (culletref01_combine.l0 k2 a1 a2 a3 y170 y173 t176 (wrap64 (x13_1 + 1)))) = some (r1, r2) := by first | (rw [hy173]; with_reducible exact H) | (have H2_ := (Option.bind_some _ _).symm.trans H; rw [hy173]; with_reducible exact H2_) | (have H2_ := (Option.bind_some _ _).symm.trans H; with_reducible exact H2_) | with_reducible exact H | (rw [hy173]; exact H) | exact H
           have Ny173 := Aside0.mk hy173
           clear hy173
           replace H := Option.bind_eq_some_iff.mp H
           obtain ⟨t176, A290, H⟩ := H
           replace H : (culletref01_combine.l0 k2 a1 a2 a3 y170 y173 t176 (wrap64 (x13_1 + 1))) = some (r1, r2) := H
           have A29 := Aside0.mk A290
           clear A290
           have H' := Aside0.mk H
           clear H
           obtain ⟨Ao30, co30, eo30⟩ := Kd.R_slice HO_10.out
           subst eo30
           go_wp2_with (first | ((with_reducible refine gate_builtin (b := .append) (xs := #[.tmp 67, .tmp 69]) rfl ?_); at_builtin; refine Kd.R_append (Kd.int .u64) (w0 := w) w.heap.size rfl (.tmp 67) (.tmp 69) 83 24 (.int .u64 0) 8 rfl Tryd.underlying83 info24 rfl (by decide) (by omega) (.slice Ao30 x10_1.length co30) x10_1 x14_2 [.int .u64 x14_2] (fun k_ => some k_ ≠ (u11 : Value).ownBlock) (fun _ => False) rfl rfl ?aP (fun _ hk => hk.elim) ?aF ?aO ?aB ?aS ?aL ?_; (case aP => exact rfl); (case aB => exact (by repeat (first | (with_reducible first | exact HB.out | apply below_alloc | apply pw_below_drewN | apply below_drew1) | exact HB.out))); (case aF => exact (fun k_ hk => Kd.fresh' (Kd.R_lt (by (with_reducible repeat (first | apply Kd.R_alloc | apply Kd.R_drewN | apply Kd.R_drew)); exact HO_11.out)) k_ hk)); (case aO => exact (by (with_reducible repeat (first | apply Kd.R_alloc | apply Kd.R_drewN | apply Kd.R_drew)); exact HO_10.out)); (case aS => exact (below_size (by repeat (first | (with_reducible first | exact HB.out | apply below_alloc | apply pw_below_drewN | apply below_drew1) | exact HB.out)))); (case aL => have := LMc27.out; omega); intro v171 w31 ho hb hg hat; rw [← Ny170.out] at ho; have n0_ := Aside0.mk (Kd.R_after (ok := (fun _ => True)) (by (with_reducible repeat (first | apply Kd.R_alloc | apply Kd.R_drewN | apply Kd.R_drew)); exact Kd.R_mono HO_11.out (fun _ hk => ⟨trivial, hk⟩)) hg hat); have n1_ := Aside0.mk (hb); have n2_ := Aside0.mk (ho); clear HO_11; clear HB; clear HO_10; have HO_11 := n0_; have HB := n1_; have HO172 := n2_; clear n0_ n1_ n2_; clear ho hb hg hat) | ((with_reducible refine gate_builtin (b := .append) (xs := #[.tmp 71, .tmp 73]) rfl ?_); at_builtin; refine Kd.R_append (Kd.int .u64) (w0 := w) w.heap.size rfl (.tmp 71) (.tmp 73) 83 24 (.int .u64 0) 8 rfl Tryd.underlying83 info24 rfl (by decide) (by omega) u11 x11_1 x15_2 [.int .u64 x15_2] (fun k_ => some k_ ≠ (v171 : Value).ownBlock) (fun _ => False) rfl rfl ?aP (fun _ hk => hk.elim) ?aF ?aO ?aB ?aS ?aL ?_; (case aP => exact rfl); (case aB => exact (by repeat (first | (with_reducible first | exact HB.out | apply below_alloc | apply pw_below_drewN | apply below_drew1) | exact HB.out))); (case aF => exact (fun k_ hk => Kd.fresh' (Kd.R_lt (by (with_reducible repeat (first | apply Kd.R_alloc | apply Kd.R_drewN | apply Kd.R_drew)); exact HO172.out)) k_ hk)); (case aO => exact (by (with_reducible repeat (first | apply Kd.R_alloc | apply Kd.R_drewN | apply Kd.R_drew)); exact Kd.R_mono HO_11.out (fun _ hk => hk.2))); (case aS => exact (below_size (by repeat (first | (with_reducible first | exact HB.out | apply below_alloc | apply pw_below_drewN | apply below_drew1) | exact HB.out)))); (case aL => have := LMc28.out; omega); intro v174 w32 ho hb hg hat; rw [← Ny173.out] at ho; have n0_ := Aside0.mk (Kd.R_after (ok := (fun _ => True)) (by (with_reducible repeat (first | apply Kd.R_alloc | apply Kd.R_drewN | apply Kd.R_drew)); exact Kd.R_mono HO172.out (fun _ hk => ⟨trivial, hk⟩)) hg hat); have n1_ := Aside0.mk (hb); have n2_ := Aside0.mk (ho); clear HO172; clear HB; clear HO_11; have HO172 := n0_; have HB := n1_; have HO175 := n2_; clear n0_ n1_ n2_; clear ho hb hg hat) | ((with_reducible refine gate_callee (f := 60) rfl ?_); refine goesL_ (some 78) rfl rfl Tryd.func60 (by kernel_rfl) rfl #[.int .u64 (IntKind.u64.wrap (2 * x12_1)), .int .u64 a2] rfl (by (try simp only [List.map_toArray, List.map_cons, List.map_nil]); first | done | rfl | (simp only [tb_wrap8]; done) | (simp only [tb_wrap8]; rfl) | (simp only [List.length_drop, List.length_take]; rfl)) ?_; (with_reducible refine (culletref01_rest.calls k2 (IntKind.u64.wrap (2 * x12_1)) a2 t176 _ A29.out).mono ?_); rintro e w' ⟨rfl, ⟨nd, rfl⟩⟩; refine ⟨_, rfl, ?_⟩))
           go_roundg k2
           case measure => have := HK1.out; have := HK2.out; omega
           case rel => exact ⟨(y170), (y173), (t176), (wrap64 (x13_1 + 1)), (by first | rfl | (simp; done) | (simp [*]; done)), (by first | rfl | (simp; done) | (simp [*]; done)), H', ⟨by have := HK1.out; have := HK2.out; omega⟩, ⟨by (with_reducible repeat (first | apply Kd.R_alloc | apply Kd.R_drewN | apply Kd.R_drew)); exact Kd.R_mono HO172.out (fun _ hk => hk.2)⟩, ⟨by (with_reducible repeat (first | apply Kd.R_alloc | apply Kd.R_drewN | apply Kd.R_drew)); exact HO175.out⟩, ⟨by repeat (first | (with_reducible first | exact HB.out | apply below_alloc | apply pw_below_drewN | apply below_drew1) | exact HB.out)⟩⟩
          ·rw [if_neg c28] at H
           exact absurd H (by simp)
         ·rw [if_neg c27] at H
          exact absurd H (by simp)
    ·rw [if_neg c8] at H
     exact absurd H (by simp)
   ·rw [if_neg c6] at H
    have c6b0 : decide (x13_1 < a3) = false := decide_eq_false c6
    clear c6
    replace H := Option.bind_eq_some_iff.mp H
    obtain ⟨t182, A330, H⟩ := H
    replace H : (culletref01_combine.l2 k1 x10_1 x11_1 t182 0 0) = some (r1, r2) := H
    have A33 := Aside0.mk A330
    clear A330
    have H' := Aside0.mk H
    clear H
    go_wp2_with (first | ((with_reducible refine gate_callee (f := 60) rfl ?_); refine goesL_ (some 81) rfl rfl Tryd.func60 (by kernel_rfl) rfl #[.int .u64 a1, .int .u64 a2] rfl (by (try simp only [List.map_toArray, List.map_cons, List.map_nil]); first | done | rfl | (simp only [tb_wrap8]; done) | (simp only [tb_wrap8]; rfl) | (simp only [List.length_drop, List.length_take]; rfl)) ?_; (with_reducible refine (culletref01_rest.calls k1 a1 a2 t182 _ A33.out).mono ?_); rintro e w' ⟨rfl, ⟨nd, rfl⟩⟩; refine ⟨_, rfl, ?_⟩))
    go_loopg [17, 18, 19] k1 (fun kq v17 v18 v19 w' => ∃ (x17_2 : Int) (x18_2 : Int) (x19_2 : Int), v17 = .int .u64 x17_2 ∧ v18 = .int .u64 x18_2 ∧ v19 = .int .i64 x19_2 ∧ Aside0 (culletref01_combine.l2 kq x10_1 x11_1 x17_2 x18_2 x19_2 = some (r1, r2)) ∧ Aside0 (kq ≤ k1) ∧ Aside0 (Kd.R (Kd.int .u64) 24 w' w.heap.size (fun k_ => some k_ ≠ (u11 : Value).ownBlock) u10 x10_1) ∧ Aside0 (Kd.R (Kd.int .u64) 24 w' w.heap.size (fun k_ => some k_ ≠ (u10 : Value).ownBlock) u11 x11_1) ∧ Aside0 (Below w.heap.size w w'))
    case atStart => exact ⟨(t182), (0), (0), (by first | rfl | (simp; done) | (simp [*]; done)), (by first | rfl | (simp; done) | (simp [*]; done)), (by first | rfl | (simp; done) | (simp [*]; done)), H', ⟨Nat.le_refl _⟩, ⟨by (with_reducible repeat (first | apply Kd.R_alloc | apply Kd.R_drewN | apply Kd.R_drew)); exact HO_10.out⟩, ⟨by (with_reducible repeat (first | apply Kd.R_alloc | apply Kd.R_drewN | apply Kd.R_drew)); exact HO_11.out⟩, ⟨by repeat (first | (with_reducible first | exact HB.out | apply below_alloc | apply pw_below_drewN | apply below_drew1) | exact HB.out)⟩⟩
    case round =>
     clear H'
     try clear c1
     try clear p1
     try clear q1
     try clear hx1
     try clear c2
     try clear p2
     try clear c4
     try clear c6
     try clear c6b0
     try clear p6
     try clear c8
     try clear c8b0
     try clear c8b1
     try clear p8
     try clear c10
     try clear c10b0
     try clear c12
     try clear c12b0
     try clear c13
     try clear c13b0
     try clear c16
     try clear c16b0
     try clear c16b1
     try clear p17
     try clear q17
     try clear hx17
     try clear c18
     try clear c18b0
     try clear c18b1
     try clear p18
     try clear q18
     try clear hx18
     try clear c19
     try clear c19b0
     try clear c24
     try clear c24b0
     try clear c24b1
     try clear c27
     try clear c28
     try clear hx178_0
     try clear hx180_0
     try clear hx181_0
     try clear p178
     try clear p180
     try clear p181
     try clear p2
     try clear p8
     try clear q178
     try clear q180
     try clear q181
     obtain ⟨x17_2, x18_2, x19_2, rfl, rfl, rfl, HA, HK2, HO_10, HO_11, HB⟩ := hrel
     cases gk with
     | zero => exact absurd HA.out (by simp [culletref01_combine.l2])
     | succ k2 =>
      have H := HA.out
      clear HA
      simp only [culletref01_combine.l2] at H
      by_cases c34 : x19_2 < (x10_1.length : Int)
      ·rw [if_pos c34] at H
       have c34b0 : decide (x19_2 < (x10_1.length : Int)) = true := decide_eq_true c34
       clear c34
       by_cases c35 : 0 ≤ x19_2
       ·rw [if_pos c35] at H
        have c35b0 : decide (0 ≤ x19_2) = true := decide_eq_true c35
        clear c35
        replace H := Option.bind_eq_some_iff.mp H
        obtain ⟨t184, A360, H⟩ := H
        replace H : (if 0 ≤ (IntKind.u64.wrap (t184)) then (if (Go.bits .and .u64 (shr .u64 x17_2 (IntKind.u64.wrap (t184))) 1) = 1 then (if x19_2 < (x11_1.length : Int) then (culletref01_combine.l2 k2 x10_1 x11_1 (Go.bits .xor .u64 x17_2 (rd x10_1 x19_2)) (Go.bits .xor .u64 x18_2 (rd x11_1 x19_2)) (wrap64 (x19_2 + 1))) else (none)) else (culletref01_combine.l2 k2 x10_1 x11_1 x17_2 x18_2 (wrap64 (x19_2 + 1)))) else (none)) = some (r1, r2) := H
        have A36 := Aside0.mk A360
        clear A360
        obtain ⟨ji37, hji37⟩ : ∃ j_ : Int, (IntKind.u64.wrap (t184)) = j_ := ⟨_, rfl⟩
        replace H : (if 0 ≤ (ji37) then (if (Go.bits .and .u64 (shr .u64 x17_2 (ji37)) 1) = 1 then (if x19_2 < (x11_1.length : Int) then (culletref01_combine.l2 k2 x10_1 x11_1 (Go.bits .xor .u64 x17_2 (rd x10_1 x19_2)) (Go.bits .xor .u64 x18_2 (rd x11_1 x19_2)) (wrap64 (x19_2 + 1))) else (none)) else (culletref01_combine.l2 k2 x10_1 x11_1 x17_2 x18_2 (wrap64 (x19_2 + 1)))) else (none)) = some (r1, r2) := by first | (rw [hji37] at H; exact H) | (simp only [hji37] at H ⊢; exact H)
        (try rw [hji37] at A36)
        by_cases c38 : 0 ≤ (ji37)
        ·rw [if_pos c38] at H
         have c38b0 := eq_true c38
         have c38b1 : decide (0 ≤ (ji37)) = true := decide_eq_true c38
         clear c38
         obtain ⟨ji39, hji39⟩ : ∃ j_ : Int, (shr .u64 x17_2 (ji37)) = j_ := ⟨_, rfl⟩
         replace H : (if (Go.bits .and .u64 (ji39) 1) = 1 then (if x19_2 < (x11_1.length : Int) then (culletref01_combine.l2 k2 x10_1 x11_1 (Go.bits .xor .u64 x17_2 (rd x10_1 x19_2)) (Go.bits .xor .u64 x18_2 (rd x11_1 x19_2)) (wrap64 (x19_2 + 1))) else (none)) else (culletref01_combine.l2 k2 x10_1 x11_1 x17_2 x18_2 (wrap64 (x19_2 + 1)))) = some (r1, r2) := by first | (rw [hji39] at H; exact H) | (simp only [hji39] at H ⊢; exact H)
         (try rw [hji39] at A36)
         have hji39_ : (x17_2 / 2 ^ min (ji37).toNat 64) = ji39 := hji39
         have hji39z : (ji37) ≤ 64 → (x17_2 / 2 ^ (ji37).toNat) = ji39 := shr_small hji39
         by_cases c40 : (Go.bits .and .u64 (ji39) 1) = 1
         ·rw [if_pos c40] at H
          have c40b0 : ((Go.bits .and .u64 (ji39) 1) == 1) = true := beq_iff_eq.mpr c40
          have c40b1 : ((Go.bits .and .u64 (ji39) 1) != 1) = false := bne_eq_false_iff_eq.mpr c40
          clear c40
          by_cases c41 : x19_2 < (x11_1.length : Int)
          ·rw [if_pos c41] at H
           have c41b0 : decide (x19_2 < (x11_1.length : Int)) = true := decide_eq_true c41
           clear c41
           have H' := Aside0.mk H
           clear H
           obtain ⟨Ao42, co42, eo42⟩ := Kd.R_slice HO_10.out
           subst eo42
           have p183 : 0 ≤ (x19_2 : Int) := of_decide_eq_true (by first | (with_reducible assumption) | assumption)
           have q183 : x19_2 < (x10_1.length : Int) := of_decide_eq_true (by first | (with_reducible assumption) | assumption)
           obtain ⟨ad183, e183, hx183_0⟩ := Kd.at_int (Kd.R_reads' HO_10.out).2.2 x19_2 p183 q183
           cases e183
           replace p183 := eq_true p183
           replace q183 := eq_true q183
           go_wp2_with (first | ((with_reducible refine gate_callee (f := 18) rfl ?_); refine goesL_ (some 93) rfl rfl Tryd.func18 (by kernel_rfl) rfl #[.int .u64 (rd x10_1 x19_2)] rfl (by (try simp only [List.map_toArray, List.map_cons, List.map_nil]); first | done | rfl | (simp only [tb_wrap8]; done) | (simp only [tb_wrap8]; rfl) | (simp only [List.length_drop, List.length_take]; rfl)) ?_; (with_reducible refine (culletref01_Degree.calls k2 (rd x10_1 x19_2) t184 _ A36.out).mono ?_); rintro e w' ⟨rfl, ⟨nd, rfl⟩⟩; refine ⟨_, rfl, ?_⟩; have p185 : 0 ≤ (x19_2 : Int) := of_decide_eq_true (by first | (with_reducible assumption) | assumption); have q185 : x19_2 < (x10_1.length : Int) := of_decide_eq_true (by first | (with_reducible assumption) | assumption); obtain ⟨ad185, e185, hx185_0⟩ := Kd.at_int (Kd.R_reads' HO_10.out).2.2 x19_2 p185 q185; obtain rfl : ad183 = ad185 := (by injection e185); replace p185 := eq_true p185; replace q185 := eq_true q185; obtain ⟨Ao43, co43, eo43⟩ := Kd.R_slice HO_11.out; subst eo43; have p186 : 0 ≤ (x19_2 : Int) := of_decide_eq_true (by first | (with_reducible assumption) | assumption); have q186 : x19_2 < (x11_1.length : Int) := of_decide_eq_true (by first | (with_reducible assumption) | assumption); obtain ⟨ad186, e186, hx186_0⟩ := Kd.at_int (Kd.R_reads' HO_11.out).2.2 x19_2 p186 q186; cases e186; replace p186 := eq_true p186; replace q186 := eq_true q186))
           go_roundg k2
           case measure => have := HK1.out; have := HK2.out; omega
           case rel => exact ⟨(Go.bits .xor .u64 x17_2 (rd x10_1 x19_2)), (Go.bits .xor .u64 x18_2 (rd x11_1 x19_2)), (wrap64 (x19_2 + 1)), (by first | rfl | (simp; done) | (simp [*]; done)), (by first | rfl | (simp; done) | (simp [*]; done)), (by first | rfl | (simp; done) | (simp [*]; done)), H', ⟨by have := HK1.out; have := HK2.out; omega⟩, ⟨by (with_reducible repeat (first | apply Kd.R_alloc | apply Kd.R_drewN | apply Kd.R_drew)); exact HO_10.out⟩, ⟨by (with_reducible repeat (first | apply Kd.R_alloc | apply Kd.R_drewN | apply Kd.R_drew)); exact HO_11.out⟩, ⟨by repeat (first | (with_reducible first | exact HB.out | apply below_alloc | apply pw_below_drewN | apply below_drew1) | exact HB.out)⟩⟩
          ·rw [if_neg c41] at H
           exact absurd H (by simp)
         ·rw [if_neg c40] at H
          have c40b0 : ((Go.bits .and .u64 (ji39) 1) == 1) = false := beq_eq_false_iff_ne.mpr c40
          have c40b1 : ((Go.bits .and .u64 (ji39) 1) != 1) = true := bne_iff_ne.mpr c40
          have H' := Aside0.mk H
          clear H
          obtain ⟨Ao44, co44, eo44⟩ := Kd.R_slice HO_10.out
          subst eo44
          have p183 : 0 ≤ (x19_2 : Int) := of_decide_eq_true (by first | (with_reducible assumption) | assumption)
          have q183 : x19_2 < (x10_1.length : Int) := of_decide_eq_true (by first | (with_reducible assumption) | assumption)
          obtain ⟨ad183, e183, hx183_0⟩ := Kd.at_int (Kd.R_reads' HO_10.out).2.2 x19_2 p183 q183
          cases e183
          replace p183 := eq_true p183
          replace q183 := eq_true q183
          go_wp2_with (first | ((with_reducible refine gate_callee (f := 18) rfl ?_); refine goesL_ (some 93) rfl rfl Tryd.func18 (by kernel_rfl) rfl #[.int .u64 (rd x10_1 x19_2)] rfl (by (try simp only [List.map_toArray, List.map_cons, List.map_nil]); first | done | rfl | (simp only [tb_wrap8]; done) | (simp only [tb_wrap8]; rfl) | (simp only [List.length_drop, List.length_take]; rfl)) ?_; (with_reducible refine (culletref01_Degree.calls k2 (rd x10_1 x19_2) t184 _ A36.out).mono ?_); rintro e w' ⟨rfl, ⟨nd, rfl⟩⟩; refine ⟨_, rfl, ?_⟩))
          go_roundg k2
          case measure => have := HK1.out; have := HK2.out; omega
          case rel => exact ⟨(x17_2), (x18_2), (wrap64 (x19_2 + 1)), (by first | rfl | (simp; done) | (simp [*]; done)), (by first | rfl | (simp; done) | (simp [*]; done)), (by first | rfl | (simp; done) | (simp [*]; done)), H', ⟨by have := HK1.out; have := HK2.out; omega⟩, ⟨by (with_reducible repeat (first | apply Kd.R_alloc | apply Kd.R_drewN | apply Kd.R_drew)); exact HO_10.out⟩, ⟨by (with_reducible repeat (first | apply Kd.R_alloc | apply Kd.R_drewN | apply Kd.R_drew)); exact HO_11.out⟩, ⟨by repeat (first | (with_reducible first | exact HB.out | apply below_alloc | apply pw_below_drewN | apply below_drew1) | exact HB.out)⟩⟩
        ·rw [if_neg c38] at H
         exact absurd H (by simp)
       ·rw [if_neg c35] at H
        exact absurd H (by simp)
      ·rw [if_neg c34] at H
       have c34b0 : decide (x19_2 < (x10_1.length : Int)) = false := decide_eq_false c34
       clear c34
       simp only [Option.some.injEq, Prod.mk.injEq] at H
       obtain ⟨rfl, rfl⟩ := H
       obtain ⟨Ao45, co45, eo45⟩ := Kd.R_slice HO_10.out
       subst eo45
       go_wp2
       go_ret2
       exact ⟨by first | rfl | (simp [errW_none, errW_some] <;> rfl) | (simp [*, errW_none, errW_some] <;> rfl), by repeat (first | (with_reducible first | exact HB.out | apply below_alloc | apply pw_below_drewN | apply below_drew1) | exact HB.out)⟩

end Go.Proofs.YthldahaimcdejaaDoor.A
end
section
-- Printed for this claim by mp.py, a program of its prover, through the kit's print. Lean checks it.
namespace Go.Proofs.YthldahaimcdejaaDoor.A
open Go.RowKit Go.Proofs.YthldahaimcdejaaDoorW.PrintWords Go.Proofs.YthldahaimcdejaaDoorW.PrintLast Go.Proofs.YthldahaimcdejaaDoorW.PrintMore
attribute [local go_sem] max2_int min2_int max_two min_two max_three min_three max_four min_four   -- for this text's walks alone
set_option linter.unusedVariables false
set_option linter.unusedSimpArgs false

/-! ### culletref01_modulus: function 49 -/
def culletref01_modulus.f (k : Nat) (a0 : Int) (a1 : Int) : Option (Bool) := (culletref01_Degree.f k a0).bind fun t187 => (if t187 ≥ 1 then (some (decide (t187 ≤ a1))) else (some false))
theorem culletref01_modulus.mono : ∀ a0 a1 k, LeO (culletref01_modulus.f k a0 a1) (culletref01_modulus.f (k + 1) a0 a1) := by
 intro a0 a1 k
 unfold culletref01_modulus.f
 repeat' first
   | (with_reducible exact culletref01_Degree.mono _ _)
   | (with_reducible exact LeO.refl _)
   | (with_reducible exact LeO.none _)
   | (with_reducible refine LeO.ite ?_ ?_)
   | (with_reducible refine LeO.bind ?_ (fun _ => ?_))
   | exact culletref01_Degree.mono _ _
   | exact LeO.none _
   | refine LeO.ite ?_ ?_
   | refine LeO.bind ?_ (fun _ => ?_)
set_option maxHeartbeats 8000000 in
set_option maxRecDepth 100000 in
theorem culletref01_modulus.calls (k : Nat) (a0 : Int) (a1 : Int) (r : Bool) (w : World) (h : culletref01_modulus.f k a0 a1 = some r) :
  Calls Tryd.prog 49 #[.int .u64 a0, .int .i64 a1] w fun e w' => e = .returned (.bool r) ∧ Drawn0 w w' := by
 have H : ((culletref01_Degree.f k a0).bind fun t187 => (if t187 ≥ 1 then (some (decide (t187 ≤ a1))) else (some false))) = some r := h
 clear h
 replace H := Option.bind_eq_some_iff.mp H
 obtain ⟨t187, A30, H⟩ := H
 replace H : (if t187 ≥ 1 then (some (decide (t187 ≤ a1))) else (some false)) = some r := H
 have A3 := Aside0.mk A30
 clear A30
 by_cases c4 : t187 ≥ 1
 ·rw [if_pos c4] at H
  have c4b0 : decide (1 ≤ t187) = true := decide_eq_true c4
  clear c4
  obtain rfl := Option.some.inj H
  go_enter Tryd.func49, Tryd.ntmps49
  go_wp2_with (first | ((with_reducible refine gate_callee (f := 18) rfl ?_); refine goesL_ (some 7) rfl rfl Tryd.func18 (by kernel_rfl) rfl #[.int .u64 a0] rfl (by (try simp only [List.map_toArray, List.map_cons, List.map_nil]); first | done | rfl | (simp only [tb_wrap8]; done) | (simp only [tb_wrap8]; rfl) | (simp only [List.length_drop, List.length_take]; rfl)) ?_; (with_reducible refine (culletref01_Degree.calls k a0 t187 _ A3.out).mono ?_); rintro e w' ⟨rfl, ⟨nd, rfl⟩⟩; refine ⟨_, rfl, ?_⟩))
  go_ret
  exact ⟨by first | rfl | (simp; done) | (simp [*]; done), by repeat (first | exact Drawn0.refl _ | apply Drawn0.step)⟩
 ·rw [if_neg c4] at H
  have c4b0 : decide (1 ≤ t187) = false := decide_eq_false c4
  clear c4
  obtain rfl := Option.some.inj H
  go_enter Tryd.func49, Tryd.ntmps49
  go_wp2_with (first | ((with_reducible refine gate_callee (f := 18) rfl ?_); refine goesL_ (some 7) rfl rfl Tryd.func18 (by kernel_rfl) rfl #[.int .u64 a0] rfl (by (try simp only [List.map_toArray, List.map_cons, List.map_nil]); first | done | rfl | (simp only [tb_wrap8]; done) | (simp only [tb_wrap8]; rfl) | (simp only [List.length_drop, List.length_take]; rfl)) ?_; (with_reducible refine (culletref01_Degree.calls k a0 t187 _ A3.out).mono ?_); rintro e w' ⟨rfl, ⟨nd, rfl⟩⟩; refine ⟨_, rfl, ?_⟩))
  go_ret
  exact ⟨by first | rfl | (simp; done) | (simp [*]; done), by repeat (first | exact Drawn0.refl _ | apply Drawn0.step)⟩

/-! ### culletref01_times: function 50 -/
def culletref01_times.l0 : Nat → Int → Int → Int → Int → Int → Option (Int)
 | 0, _, _, _, _, _ => none
 | k + 1, x0, x1, x2, x7, x8 => if x8 ≥ 0 then ((culletref01_rest.f k (IntKind.u64.wrap (2 * x7)) x2).bind fun t190 => (if 0 ≤ (IntKind.u64.wrap (x8)) then (if (Go.bits .and .u64 (shr .u64 x0 (IntKind.u64.wrap (x8))) 1) = 1 then (culletref01_times.l0 k x0 x1 x2 (Go.bits .xor .u64 t190 x1) (wrap64 (x8 - 1))) else (culletref01_times.l0 k x0 x1 x2 t190 (wrap64 (x8 - 1)))) else (none))) else (some x7)
def culletref01_times.f (k : Nat) (a0 : Int) (a1 : Int) (a2 : Int) : Option (Int) := (culletref01_rest.f k a1 a2).bind fun t188 => ((culletref01_Degree.f k a0).bind fun t189 => (culletref01_times.l0 k a0 t188 a2 0 t189))
theorem culletref01_times.mono_l : ∀ k, (∀ y0 y1 y2 y3 y4, LeO (culletref01_times.l0 k y0 y1 y2 y3 y4) (culletref01_times.l0 (k + 1) y0 y1 y2 y3 y4))
 | 0 => fun _ _ _ _ _ r h => by simp [culletref01_times.l0] at h
 | k + 1 => by
  have ih0 := culletref01_times.mono_l k
  ·intro y0 y1 y2 y3 y4
   unfold culletref01_times.l0
   repeat' first
   | (with_reducible exact ih0 _ _ _ _ _)
   | (with_reducible exact culletref01_Degree.mono _ _)
   | (with_reducible exact culletref01_rest.mono _ _ _)
   | (with_reducible exact LeO.refl _)
   | (with_reducible exact LeO.none _)
   | (with_reducible refine LeO.ite ?_ ?_)
   | (with_reducible refine LeO.bind ?_ (fun _ => ?_))
   | exact ih0 _ _ _ _ _
   | exact culletref01_Degree.mono _ _
   | exact culletref01_rest.mono _ _ _
   | exact LeO.none _
   | refine LeO.ite ?_ ?_
   | refine LeO.bind ?_ (fun _ => ?_)
theorem culletref01_times.mono : ∀ a0 a1 a2 k, LeO (culletref01_times.f k a0 a1 a2) (culletref01_times.f (k + 1) a0 a1 a2) := by
 intro a0 a1 a2 k
 have ih0 := culletref01_times.mono_l k
 unfold culletref01_times.f
 repeat' first
   | (with_reducible exact ih0 _ _ _ _ _)
   | (with_reducible exact culletref01_Degree.mono _ _)
   | (with_reducible exact culletref01_rest.mono _ _ _)
   | (with_reducible exact LeO.refl _)
   | (with_reducible exact LeO.none _)
   | (with_reducible refine LeO.ite ?_ ?_)
   | (with_reducible refine LeO.bind ?_ (fun _ => ?_))
   | exact ih0 _ _ _ _ _
   | exact culletref01_Degree.mono _ _
   | exact culletref01_rest.mono _ _ _
   | exact LeO.none _
   | refine LeO.ite ?_ ?_
   | refine LeO.bind ?_ (fun _ => ?_)
set_option maxHeartbeats 8000000 in
set_option maxRecDepth 100000 in
theorem culletref01_times.calls (k : Nat) (a0 : Int) (a1 : Int) (a2 : Int) (r : Int) (w : World) (h : culletref01_times.f k a0 a1 a2 = some r) :
  Calls Tryd.prog 50 #[.int .u64 a0, .int .u64 a1, .int .u64 a2] w fun e w' => e = .returned (.int .u64 r) ∧ Drawn0 w w' := by
 have H : ((culletref01_rest.f k a1 a2).bind fun t188 => ((culletref01_Degree.f k a0).bind fun t189 => (culletref01_times.l0 k a0 t188 a2 0 t189))) = some r := h
 clear h
 replace H := Option.bind_eq_some_iff.mp H
 obtain ⟨t188, A40, H⟩ := H
 replace H : ((culletref01_Degree.f k a0).bind fun t189 => (culletref01_times.l0 k a0 t188 a2 0 t189)) = some r := H
 have A4 := Aside0.mk A40
 clear A40
 replace H := Option.bind_eq_some_iff.mp H
 obtain ⟨t189, A50, H⟩ := H
 replace H : (culletref01_times.l0 k a0 t188 a2 0 t189) = some r := H
 have A5 := Aside0.mk A50
 clear A50
 have H' := Aside0.mk H
 clear H
 go_enter Tryd.func50, Tryd.ntmps50
 go_wp2_with (first | ((with_reducible refine gate_callee (f := 60) rfl ?_); refine goesL_ (some 11) rfl rfl Tryd.func60 (by kernel_rfl) rfl #[.int .u64 a1, .int .u64 a2] rfl (by (try simp only [List.map_toArray, List.map_cons, List.map_nil]); first | done | rfl | (simp only [tb_wrap8]; done) | (simp only [tb_wrap8]; rfl) | (simp only [List.length_drop, List.length_take]; rfl)) ?_; (with_reducible refine (culletref01_rest.calls k a1 a2 t188 _ A4.out).mono ?_); rintro e w' ⟨rfl, ⟨nd, rfl⟩⟩; refine ⟨_, rfl, ?_⟩) | ((with_reducible refine gate_callee (f := 18) rfl ?_); refine goesL_ (some 13) rfl rfl Tryd.func18 (by kernel_rfl) rfl #[.int .u64 a0] rfl (by (try simp only [List.map_toArray, List.map_cons, List.map_nil]); first | done | rfl | (simp only [tb_wrap8]; done) | (simp only [tb_wrap8]; rfl) | (simp only [List.length_drop, List.length_take]; rfl)) ?_; (with_reducible refine (culletref01_Degree.calls k a0 t189 _ A5.out).mono ?_); rintro e w' ⟨rfl, ⟨nd, rfl⟩⟩; refine ⟨_, rfl, ?_⟩))
 go_loopg [7, 8] k (fun kq v7 v8 w' => ∃ (x7_1 : Int) (x8_1 : Int), v7 = .int .u64 x7_1 ∧ v8 = .int .i64 x8_1 ∧ Aside0 (culletref01_times.l0 kq a0 t188 a2 x7_1 x8_1 = some r) ∧ Aside0 (kq ≤ k) ∧ Drawn0 w w')
 case atStart => exact ⟨(0), (t189), (by first | rfl | (simp; done) | (simp [*]; done)), (by first | rfl | (simp; done) | (simp [*]; done)), H', ⟨Nat.le_refl _⟩, by repeat (first | exact Drawn0.refl _ | apply Drawn0.step)⟩
 case round =>
  clear H'
  try clear c1
  try clear p2
  try clear c5
  obtain ⟨x7_1, x8_1, rfl, rfl, HA, HK1, ⟨m1, rfl⟩⟩ := hrel
  cases gk with
  | zero => exact absurd HA.out (by simp [culletref01_times.l0])
  | succ k1 =>
   have H := HA.out
   clear HA
   simp only [culletref01_times.l0] at H
   by_cases c6 : x8_1 ≥ 0
   ·rw [if_pos c6] at H
    have c6b0 : decide (0 ≤ x8_1) = true := decide_eq_true c6
    clear c6
    replace H := Option.bind_eq_some_iff.mp H
    obtain ⟨t190, A70, H⟩ := H
    replace H : (if 0 ≤ (IntKind.u64.wrap (x8_1)) then (if (Go.bits .and .u64 (shr .u64 a0 (IntKind.u64.wrap (x8_1))) 1) = 1 then (culletref01_times.l0 k1 a0 t188 a2 (Go.bits .xor .u64 t190 t188) (wrap64 (x8_1 - 1))) else (culletref01_times.l0 k1 a0 t188 a2 t190 (wrap64 (x8_1 - 1)))) else (none)) = some r := H
    have A7 := Aside0.mk A70
    clear A70
    obtain ⟨ji8, hji8⟩ : ∃ j_ : Int, (IntKind.u64.wrap (x8_1)) = j_ := ⟨_, rfl⟩
    replace H : (if 0 ≤ (ji8) then (if (Go.bits .and .u64 (shr .u64 a0 (ji8)) 1) = 1 then (culletref01_times.l0 k1 a0 t188 a2 (Go.bits .xor .u64 t190 t188) (wrap64 (x8_1 - 1))) else (culletref01_times.l0 k1 a0 t188 a2 t190 (wrap64 (x8_1 - 1)))) else (none)) = some r := by first | (rw [hji8] at H; exact H) | (simp only [hji8] at H ⊢; exact H)
    (try rw [hji8] at A7)
    by_cases c9 : 0 ≤ (ji8)
    ·rw [if_pos c9] at H
     have c9b0 := eq_true c9
     have c9b1 : decide (0 ≤ (ji8)) = true := decide_eq_true c9
     clear c9
     obtain ⟨ji10, hji10⟩ : ∃ j_ : Int, (shr .u64 a0 (ji8)) = j_ := ⟨_, rfl⟩
     replace H : (if (Go.bits .and .u64 (ji10) 1) = 1 then (culletref01_times.l0 k1 a0 t188 a2 (Go.bits .xor .u64 t190 t188) (wrap64 (x8_1 - 1))) else (culletref01_times.l0 k1 a0 t188 a2 t190 (wrap64 (x8_1 - 1)))) = some r := by first | (rw [hji10] at H; exact H) | (simp only [hji10] at H ⊢; exact H)
     (try rw [hji10] at A7)
     have hji10_ : (a0 / 2 ^ min (ji8).toNat 64) = ji10 := hji10
     have hji10z : (ji8) ≤ 64 → (a0 / 2 ^ (ji8).toNat) = ji10 := shr_small hji10
     by_cases c11 : (Go.bits .and .u64 (ji10) 1) = 1
     ·rw [if_pos c11] at H
      have c11b0 : ((Go.bits .and .u64 (ji10) 1) == 1) = true := beq_iff_eq.mpr c11
      have c11b1 : ((Go.bits .and .u64 (ji10) 1) != 1) = false := bne_eq_false_iff_eq.mpr c11
      clear c11
      have H' := Aside0.mk H
      clear H
      go_wp2_with (first | ((with_reducible refine gate_callee (f := 60) rfl ?_); refine goesL_ (some 21) rfl rfl Tryd.func60 (by kernel_rfl) rfl #[.int .u64 (IntKind.u64.wrap (2 * x7_1)), .int .u64 a2] rfl (by (try simp only [List.map_toArray, List.map_cons, List.map_nil]); first | done | rfl | (simp only [tb_wrap8]; done) | (simp only [tb_wrap8]; rfl) | (simp only [List.length_drop, List.length_take]; rfl)) ?_; (with_reducible refine (culletref01_rest.calls k1 (IntKind.u64.wrap (2 * x7_1)) a2 t190 _ A7.out).mono ?_); rintro e w' ⟨rfl, ⟨nd, rfl⟩⟩; refine ⟨_, rfl, ?_⟩))
      go_roundg k1
      case measure => have := HK1.out; omega
      case rel => exact ⟨(Go.bits .xor .u64 t190 t188), (wrap64 (x8_1 - 1)), (by first | rfl | (simp; done) | (simp [*]; done)), (by first | rfl | (simp; done) | (simp [*]; done)), H', ⟨by have := HK1.out; omega⟩, by repeat (first | exact Drawn0.refl _ | apply Drawn0.step)⟩
     ·rw [if_neg c11] at H
      have c11b0 : ((Go.bits .and .u64 (ji10) 1) == 1) = false := beq_eq_false_iff_ne.mpr c11
      have c11b1 : ((Go.bits .and .u64 (ji10) 1) != 1) = true := bne_iff_ne.mpr c11
      have H' := Aside0.mk H
      clear H
      go_wp2_with (first | ((with_reducible refine gate_callee (f := 60) rfl ?_); refine goesL_ (some 21) rfl rfl Tryd.func60 (by kernel_rfl) rfl #[.int .u64 (IntKind.u64.wrap (2 * x7_1)), .int .u64 a2] rfl (by (try simp only [List.map_toArray, List.map_cons, List.map_nil]); first | done | rfl | (simp only [tb_wrap8]; done) | (simp only [tb_wrap8]; rfl) | (simp only [List.length_drop, List.length_take]; rfl)) ?_; (with_reducible refine (culletref01_rest.calls k1 (IntKind.u64.wrap (2 * x7_1)) a2 t190 _ A7.out).mono ?_); rintro e w' ⟨rfl, ⟨nd, rfl⟩⟩; refine ⟨_, rfl, ?_⟩))
      go_roundg k1
      case measure => have := HK1.out; omega
      case rel => exact ⟨(t190), (wrap64 (x8_1 - 1)), (by first | rfl | (simp; done) | (simp [*]; done)), (by first | rfl | (simp; done) | (simp [*]; done)), H', ⟨by have := HK1.out; omega⟩, by repeat (first | exact Drawn0.refl _ | apply Drawn0.step)⟩
    ·rw [if_neg c9] at H
     exact absurd H (by simp)
   ·rw [if_neg c6] at H
    have c6b0 : decide (0 ≤ x8_1) = false := decide_eq_false c6
    clear c6
    obtain rfl := Option.some.inj H
    go_wp2
    go_ret
    exact ⟨by first | rfl | (simp; done) | (simp [*]; done), by repeat (first | exact Drawn0.refl _ | apply Drawn0.step)⟩

/-! ### culletref01_MulMod: function 29 -/
def culletref01_MulMod.f (k : Nat) (a0 : Int) (a1 : Int) (a2 : Int) : Option (Int × Int) := (culletref01_modulus.f k a2 32).bind fun t191 => (if t191 = true then ((culletref01_times.f k a0 a1 a2).bind fun t192 => (some (t192, 0))) else (some (0, 11)))
theorem culletref01_MulMod.mono : ∀ a0 a1 a2 k, LeO (culletref01_MulMod.f k a0 a1 a2) (culletref01_MulMod.f (k + 1) a0 a1 a2) := by
 intro a0 a1 a2 k
 unfold culletref01_MulMod.f
 repeat' first
   | (with_reducible exact culletref01_modulus.mono _ _ _)
   | (with_reducible exact culletref01_times.mono _ _ _ _)
   | (with_reducible exact LeO.refl _)
   | (with_reducible exact LeO.none _)
   | (with_reducible refine LeO.ite ?_ ?_)
   | (with_reducible refine LeO.bind ?_ (fun _ => ?_))
   | exact culletref01_modulus.mono _ _ _
   | exact culletref01_times.mono _ _ _ _
   | exact LeO.none _
   | refine LeO.ite ?_ ?_
   | refine LeO.bind ?_ (fun _ => ?_)
set_option maxHeartbeats 8000000 in
set_option maxRecDepth 100000 in
theorem culletref01_MulMod.calls (k : Nat) (a0 : Int) (a1 : Int) (a2 : Int) (r1 : Int) (r2 : Int) (w : World) (h : culletref01_MulMod.f k a0 a1 a2 = some (r1, r2)) :
  Calls Tryd.prog 29 #[.int .u64 a0, .int .u64 a1, .int .u64 a2] w fun e w' => e = .returned (.tuple #[.int .u64 r1, .int .i64 r2]) ∧ Drawn0 w w' := by
 have H : ((culletref01_modulus.f k a2 32).bind fun t191 => (if t191 = true then ((culletref01_times.f k a0 a1 a2).bind fun t192 => (some (t192, 0))) else (some (0, 11)))) = some (r1, r2) := h
 clear h
 replace H := Option.bind_eq_some_iff.mp H
 obtain ⟨t191, A40, H⟩ := H
 replace H : (if t191 = true then ((culletref01_times.f k a0 a1 a2).bind fun t192 => (some (t192, 0))) else (some (0, 11))) = some (r1, r2) := H
 have A4 := Aside0.mk A40
 clear A40
 by_cases c5 : t191 = true
 ·subst c5
  have H1 : ((culletref01_times.f k a0 a1 a2).bind fun t192 => (some (t192, 0))) = some (r1, r2) := by rw [if_pos rfl] at H; exact H
  clear H
  have H := H1
  clear H1
  replace H := Option.bind_eq_some_iff.mp H
  obtain ⟨t192, A60, H⟩ := H
  replace H : (some (t192, 0)) = some (r1, r2) := H
  have A6 := Aside0.mk A60
  clear A60
  simp only [Option.some.injEq, Prod.mk.injEq] at H
  obtain ⟨rfl, rfl⟩ := H
  go_enter Tryd.func29, Tryd.ntmps29
  go_wp2_with (first | ((with_reducible refine gate_callee (f := 49) rfl ?_); refine goesL_ (some 9) rfl rfl Tryd.func49 (by kernel_rfl) rfl #[.int .u64 a2, .int .i64 32] rfl (by (try simp only [List.map_toArray, List.map_cons, List.map_nil]); first | done | rfl | (simp only [tb_wrap8]; done) | (simp only [tb_wrap8]; rfl) | (simp only [List.length_drop, List.length_take]; rfl)) ?_; (with_reducible refine (culletref01_modulus.calls k a2 32 true _ A4.out).mono ?_); rintro e w' ⟨rfl, ⟨nd, rfl⟩⟩; refine ⟨_, rfl, ?_⟩) | ((with_reducible refine gate_callee (f := 50) rfl ?_); refine goesL_ (some 14) rfl rfl Tryd.func50 (by kernel_rfl) rfl #[.int .u64 a0, .int .u64 a1, .int .u64 a2] rfl (by (try simp only [List.map_toArray, List.map_cons, List.map_nil]); first | done | rfl | (simp only [tb_wrap8]; done) | (simp only [tb_wrap8]; rfl) | (simp only [List.length_drop, List.length_take]; rfl)) ?_; (with_reducible refine (culletref01_times.calls k a0 a1 a2 t192 _ A6.out).mono ?_); rintro e w' ⟨rfl, ⟨nd, rfl⟩⟩; refine ⟨_, rfl, ?_⟩))
  go_ret2
  exact ⟨by first | rfl | (simp; done) | (simp [*]; done), by repeat (first | exact Drawn0.refl _ | apply Drawn0.step)⟩
 ·replace c5 := Bool.eq_false_iff.mpr c5
  subst c5
  have H1 : (some (0, 11)) = some (r1, r2) := by rw [if_neg (show ¬ (false = true) by decide)] at H; exact H
  clear H
  have H := H1
  clear H1
  simp only [Option.some.injEq, Prod.mk.injEq] at H
  obtain ⟨rfl, rfl⟩ := H
  go_enter Tryd.func29, Tryd.ntmps29
  go_wp2_with (first | ((with_reducible refine gate_callee (f := 49) rfl ?_); refine goesL_ (some 9) rfl rfl Tryd.func49 (by kernel_rfl) rfl #[.int .u64 a2, .int .i64 32] rfl (by (try simp only [List.map_toArray, List.map_cons, List.map_nil]); first | done | rfl | (simp only [tb_wrap8]; done) | (simp only [tb_wrap8]; rfl) | (simp only [List.length_drop, List.length_take]; rfl)) ?_; (with_reducible refine (culletref01_modulus.calls k a2 32 false _ A4.out).mono ?_); rintro e w' ⟨rfl, ⟨nd, rfl⟩⟩; refine ⟨_, rfl, ?_⟩))
  go_ret2
  exact ⟨by first | rfl | (simp; done) | (simp [*]; done), by repeat (first | exact Drawn0.refl _ | apply Drawn0.step)⟩

/-! ### culletref01_PowMod: function 31 -/
def culletref01_PowMod.l0 : Nat → Int → Int → Int → Int → Int → Option (Int × Int)
 | 0, _, _, _, _, _ => none
 | k + 1, x0, x1, x2, x8, x9 => if x9 ≥ 0 then ((culletref01_times.f k x8 x8 x2).bind fun t195 => (if 0 ≤ (IntKind.u64.wrap (x9)) then (if (Go.bits .and .u64 (shr .u64 x1 (IntKind.u64.wrap (x9))) 1) = 1 then ((culletref01_times.f k t195 x0 x2).bind fun t196 => (culletref01_PowMod.l0 k x0 x1 x2 t196 (wrap64 (x9 - 1)))) else (culletref01_PowMod.l0 k x0 x1 x2 t195 (wrap64 (x9 - 1)))) else (none))) else (some (x8, 0))
def culletref01_PowMod.f (k : Nat) (a0 : Int) (a1 : Int) (a2 : Int) : Option (Int × Int) := (culletref01_modulus.f k a2 32).bind fun t193 => (if t193 = true then ((culletref01_Degree.f k a1).bind fun t194 => (culletref01_PowMod.l0 k a0 a1 a2 1 t194)) else (some (0, 11)))
theorem culletref01_PowMod.mono_l : ∀ k, (∀ y0 y1 y2 y3 y4, LeO (culletref01_PowMod.l0 k y0 y1 y2 y3 y4) (culletref01_PowMod.l0 (k + 1) y0 y1 y2 y3 y4))
 | 0 => fun _ _ _ _ _ r h => by simp [culletref01_PowMod.l0] at h
 | k + 1 => by
  have ih0 := culletref01_PowMod.mono_l k
  ·intro y0 y1 y2 y3 y4
   unfold culletref01_PowMod.l0
   repeat' first
   | (with_reducible exact ih0 _ _ _ _ _)
   | (with_reducible exact culletref01_Degree.mono _ _)
   | (with_reducible exact culletref01_modulus.mono _ _ _)
   | (with_reducible exact culletref01_times.mono _ _ _ _)
   | (with_reducible exact LeO.refl _)
   | (with_reducible exact LeO.none _)
   | (with_reducible refine LeO.ite ?_ ?_)
   | (with_reducible refine LeO.bind ?_ (fun _ => ?_))
   | exact ih0 _ _ _ _ _
   | exact culletref01_Degree.mono _ _
   | exact culletref01_modulus.mono _ _ _
   | exact culletref01_times.mono _ _ _ _
   | exact LeO.none _
   | refine LeO.ite ?_ ?_
   | refine LeO.bind ?_ (fun _ => ?_)
theorem culletref01_PowMod.mono : ∀ a0 a1 a2 k, LeO (culletref01_PowMod.f k a0 a1 a2) (culletref01_PowMod.f (k + 1) a0 a1 a2) := by
 intro a0 a1 a2 k
 have ih0 := culletref01_PowMod.mono_l k
 unfold culletref01_PowMod.f
 repeat' first
   | (with_reducible exact ih0 _ _ _ _ _)
   | (with_reducible exact culletref01_Degree.mono _ _)
   | (with_reducible exact culletref01_modulus.mono _ _ _)
   | (with_reducible exact culletref01_times.mono _ _ _ _)
   | (with_reducible exact LeO.refl _)
   | (with_reducible exact LeO.none _)
   | (with_reducible refine LeO.ite ?_ ?_)
   | (with_reducible refine LeO.bind ?_ (fun _ => ?_))
   | exact ih0 _ _ _ _ _
   | exact culletref01_Degree.mono _ _
   | exact culletref01_modulus.mono _ _ _
   | exact culletref01_times.mono _ _ _ _
   | exact LeO.none _
   | refine LeO.ite ?_ ?_
   | refine LeO.bind ?_ (fun _ => ?_)
set_option maxHeartbeats 8000000 in
set_option maxRecDepth 100000 in
theorem culletref01_PowMod.calls (k : Nat) (a0 : Int) (a1 : Int) (a2 : Int) (r1 : Int) (r2 : Int) (w : World) (h : culletref01_PowMod.f k a0 a1 a2 = some (r1, r2)) :
  Calls Tryd.prog 31 #[.int .u64 a0, .int .u64 a1, .int .u64 a2] w fun e w' => e = .returned (.tuple #[.int .u64 r1, .int .i64 r2]) ∧ Drawn0 w w' := by
 have H : ((culletref01_modulus.f k a2 32).bind fun t193 => (if t193 = true then ((culletref01_Degree.f k a1).bind fun t194 => (culletref01_PowMod.l0 k a0 a1 a2 1 t194)) else (some (0, 11)))) = some (r1, r2) := h
 clear h
 replace H := Option.bind_eq_some_iff.mp H
 obtain ⟨t193, A40, H⟩ := H
 replace H : (if t193 = true then ((culletref01_Degree.f k a1).bind fun t194 => (culletref01_PowMod.l0 k a0 a1 a2 1 t194)) else (some (0, 11))) = some (r1, r2) := H
 have A4 := Aside0.mk A40
 clear A40
 by_cases c5 : t193 = true
 ·subst c5
  have H1 : ((culletref01_Degree.f k a1).bind fun t194 => (culletref01_PowMod.l0 k a0 a1 a2 1 t194)) = some (r1, r2) := by rw [if_pos rfl] at H; exact H
  clear H
  have H := H1
  clear H1
  replace H := Option.bind_eq_some_iff.mp H
  obtain ⟨t194, A60, H⟩ := H
  replace H : (culletref01_PowMod.l0 k a0 a1 a2 1 t194) = some (r1, r2) := H
  have A6 := Aside0.mk A60
  clear A60
  have H' := Aside0.mk H
  clear H
  go_enter Tryd.func31, Tryd.ntmps31
  go_wp2_with (first | ((with_reducible refine gate_callee (f := 49) rfl ?_); refine goesL_ (some 11) rfl rfl Tryd.func49 (by kernel_rfl) rfl #[.int .u64 a2, .int .i64 32] rfl (by (try simp only [List.map_toArray, List.map_cons, List.map_nil]); first | done | rfl | (simp only [tb_wrap8]; done) | (simp only [tb_wrap8]; rfl) | (simp only [List.length_drop, List.length_take]; rfl)) ?_; (with_reducible refine (culletref01_modulus.calls k a2 32 true _ A4.out).mono ?_); rintro e w' ⟨rfl, ⟨nd, rfl⟩⟩; refine ⟨_, rfl, ?_⟩) | ((with_reducible refine gate_callee (f := 18) rfl ?_); refine goesL_ (some 14) rfl rfl Tryd.func18 (by kernel_rfl) rfl #[.int .u64 a1] rfl (by (try simp only [List.map_toArray, List.map_cons, List.map_nil]); first | done | rfl | (simp only [tb_wrap8]; done) | (simp only [tb_wrap8]; rfl) | (simp only [List.length_drop, List.length_take]; rfl)) ?_; (with_reducible refine (culletref01_Degree.calls k a1 t194 _ A6.out).mono ?_); rintro e w' ⟨rfl, ⟨nd, rfl⟩⟩; refine ⟨_, rfl, ?_⟩))
  go_loopg [8, 9] k (fun kq v8 v9 w' => ∃ (x8_1 : Int) (x9_1 : Int), v8 = .int .u64 x8_1 ∧ v9 = .int .i64 x9_1 ∧ Aside0 (culletref01_PowMod.l0 kq a0 a1 a2 x8_1 x9_1 = some (r1, r2)) ∧ Aside0 (kq ≤ k) ∧ Drawn0 w w')
  case atStart => exact ⟨(1), (t194), (by first | rfl | (simp; done) | (simp [*]; done)), (by first | rfl | (simp; done) | (simp [*]; done)), H', ⟨Nat.le_refl _⟩, by repeat (first | exact Drawn0.refl _ | apply Drawn0.step)⟩
  case round =>
   clear H'
   try clear c1
   try clear p2
   try clear c3
   try clear c4
   try clear c5
   obtain ⟨x8_1, x9_1, rfl, rfl, HA, HK1, ⟨m1, rfl⟩⟩ := hrel
   cases gk with
   | zero => exact absurd HA.out (by simp [culletref01_PowMod.l0])
   | succ k1 =>
    have H := HA.out
    clear HA
    simp only [culletref01_PowMod.l0] at H
    by_cases c7 : x9_1 ≥ 0
    ·rw [if_pos c7] at H
     have c7b0 : decide (0 ≤ x9_1) = true := decide_eq_true c7
     clear c7
     replace H := Option.bind_eq_some_iff.mp H
     obtain ⟨t195, A80, H⟩ := H
     replace H : (if 0 ≤ (IntKind.u64.wrap (x9_1)) then (if (Go.bits .and .u64 (shr .u64 a1 (IntKind.u64.wrap (x9_1))) 1) = 1 then ((culletref01_times.f k1 t195 a0 a2).bind fun t196 => (culletref01_PowMod.l0 k1 a0 a1 a2 t196 (wrap64 (x9_1 - 1)))) else (culletref01_PowMod.l0 k1 a0 a1 a2 t195 (wrap64 (x9_1 - 1)))) else (none)) = some (r1, r2) := H
     have A8 := Aside0.mk A80
     clear A80
     obtain ⟨ji9, hji9⟩ : ∃ j_ : Int, (IntKind.u64.wrap (x9_1)) = j_ := ⟨_, rfl⟩
     replace H : (if 0 ≤ (ji9) then (if (Go.bits .and .u64 (shr .u64 a1 (ji9)) 1) = 1 then ((culletref01_times.f k1 t195 a0 a2).bind fun t196 => (culletref01_PowMod.l0 k1 a0 a1 a2 t196 (wrap64 (x9_1 - 1)))) else (culletref01_PowMod.l0 k1 a0 a1 a2 t195 (wrap64 (x9_1 - 1)))) else (none)) = some (r1, r2) := by first | (rw [hji9] at H; exact H) | (simp only [hji9] at H ⊢; exact H)
     (try rw [hji9] at A8)
     by_cases c10 : 0 ≤ (ji9)
     ·rw [if_pos c10] at H
      have c10b0 := eq_true c10
      have c10b1 : decide (0 ≤ (ji9)) = true := decide_eq_true c10
      clear c10
      obtain ⟨ji11, hji11⟩ : ∃ j_ : Int, (shr .u64 a1 (ji9)) = j_ := ⟨_, rfl⟩
      replace H : (if (Go.bits .and .u64 (ji11) 1) = 1 then ((culletref01_times.f k1 t195 a0 a2).bind fun t196 => (culletref01_PowMod.l0 k1 a0 a1 a2 t196 (wrap64 (x9_1 - 1)))) else (culletref01_PowMod.l0 k1 a0 a1 a2 t195 (wrap64 (x9_1 - 1)))) = some (r1, r2) := by first | (rw [hji11] at H; exact H) | (simp only [hji11] at H ⊢; exact H)
      (try rw [hji11] at A8)
      have hji11_ : (a1 / 2 ^ min (ji9).toNat 64) = ji11 := hji11
      have hji11z : (ji9) ≤ 64 → (a1 / 2 ^ (ji9).toNat) = ji11 := shr_small hji11
      by_cases c12 : (Go.bits .and .u64 (ji11) 1) = 1
      ·rw [if_pos c12] at H
       have c12b0 : ((Go.bits .and .u64 (ji11) 1) == 1) = true := beq_iff_eq.mpr c12
       have c12b1 : ((Go.bits .and .u64 (ji11) 1) != 1) = false := bne_eq_false_iff_eq.mpr c12
       clear c12
       replace H := Option.bind_eq_some_iff.mp H
       obtain ⟨t196, A130, H⟩ := H
       replace H : (culletref01_PowMod.l0 k1 a0 a1 a2 t196 (wrap64 (x9_1 - 1))) = some (r1, r2) := H
       have A13 := Aside0.mk A130
       clear A130
       have H' := Aside0.mk H
       clear H
       go_wp2_with (first | ((with_reducible refine gate_callee (f := 50) rfl ?_); refine goesL_ (some 22) rfl rfl Tryd.func50 (by kernel_rfl) rfl #[.int .u64 x8_1, .int .u64 x8_1, .int .u64 a2] rfl (by (try simp only [List.map_toArray, List.map_cons, List.map_nil]); first | done | rfl | (simp only [tb_wrap8]; done) | (simp only [tb_wrap8]; rfl) | (simp only [List.length_drop, List.length_take]; rfl)) ?_; (with_reducible refine (culletref01_times.calls k1 x8_1 x8_1 a2 t195 _ A8.out).mono ?_); rintro e w' ⟨rfl, ⟨nd, rfl⟩⟩; refine ⟨_, rfl, ?_⟩) | ((with_reducible refine gate_callee (f := 50) rfl ?_); refine goesL_ (some 32) rfl rfl Tryd.func50 (by kernel_rfl) rfl #[.int .u64 t195, .int .u64 a0, .int .u64 a2] rfl (by (try simp only [List.map_toArray, List.map_cons, List.map_nil]); first | done | rfl | (simp only [tb_wrap8]; done) | (simp only [tb_wrap8]; rfl) | (simp only [List.length_drop, List.length_take]; rfl)) ?_; (with_reducible refine (culletref01_times.calls k1 t195 a0 a2 t196 _ A13.out).mono ?_); rintro e w' ⟨rfl, ⟨nd, rfl⟩⟩; refine ⟨_, rfl, ?_⟩))
       go_roundg k1
       case measure => have := HK1.out; omega
       case rel => exact ⟨(t196), (wrap64 (x9_1 - 1)), (by first | rfl | (simp; done) | (simp [*]; done)), (by first | rfl | (simp; done) | (simp [*]; done)), H', ⟨by have := HK1.out; omega⟩, by repeat (first | exact Drawn0.refl _ | apply Drawn0.step)⟩
      ·rw [if_neg c12] at H
       have c12b0 : ((Go.bits .and .u64 (ji11) 1) == 1) = false := beq_eq_false_iff_ne.mpr c12
       have c12b1 : ((Go.bits .and .u64 (ji11) 1) != 1) = true := bne_iff_ne.mpr c12
       have H' := Aside0.mk H
       clear H
       go_wp2_with (first | ((with_reducible refine gate_callee (f := 50) rfl ?_); refine goesL_ (some 22) rfl rfl Tryd.func50 (by kernel_rfl) rfl #[.int .u64 x8_1, .int .u64 x8_1, .int .u64 a2] rfl (by (try simp only [List.map_toArray, List.map_cons, List.map_nil]); first | done | rfl | (simp only [tb_wrap8]; done) | (simp only [tb_wrap8]; rfl) | (simp only [List.length_drop, List.length_take]; rfl)) ?_; (with_reducible refine (culletref01_times.calls k1 x8_1 x8_1 a2 t195 _ A8.out).mono ?_); rintro e w' ⟨rfl, ⟨nd, rfl⟩⟩; refine ⟨_, rfl, ?_⟩))
       go_roundg k1
       case measure => have := HK1.out; omega
       case rel => exact ⟨(t195), (wrap64 (x9_1 - 1)), (by first | rfl | (simp; done) | (simp [*]; done)), (by first | rfl | (simp; done) | (simp [*]; done)), H', ⟨by have := HK1.out; omega⟩, by repeat (first | exact Drawn0.refl _ | apply Drawn0.step)⟩
     ·rw [if_neg c10] at H
      exact absurd H (by simp)
    ·rw [if_neg c7] at H
     have c7b0 : decide (0 ≤ x9_1) = false := decide_eq_false c7
     clear c7
     simp only [Option.some.injEq, Prod.mk.injEq] at H
     obtain ⟨rfl, rfl⟩ := H
     go_wp2
     go_ret2
     exact ⟨by first | rfl | (simp; done) | (simp [*]; done), by repeat (first | exact Drawn0.refl _ | apply Drawn0.step)⟩
 ·replace c5 := Bool.eq_false_iff.mpr c5
  subst c5
  have H1 : (some (0, 11)) = some (r1, r2) := by rw [if_neg (show ¬ (false = true) by decide)] at H; exact H
  clear H
  have H := H1
  clear H1
  simp only [Option.some.injEq, Prod.mk.injEq] at H
  obtain ⟨rfl, rfl⟩ := H
  go_enter Tryd.func31, Tryd.ntmps31
  go_wp2_with (first | ((with_reducible refine gate_callee (f := 49) rfl ?_); refine goesL_ (some 11) rfl rfl Tryd.func49 (by kernel_rfl) rfl #[.int .u64 a2, .int .i64 32] rfl (by (try simp only [List.map_toArray, List.map_cons, List.map_nil]); first | done | rfl | (simp only [tb_wrap8]; done) | (simp only [tb_wrap8]; rfl) | (simp only [List.length_drop, List.length_take]; rfl)) ?_; (with_reducible refine (culletref01_modulus.calls k a2 32 false _ A4.out).mono ?_); rintro e w' ⟨rfl, ⟨nd, rfl⟩⟩; refine ⟨_, rfl, ?_⟩))
  go_ret2
  exact ⟨by first | rfl | (simp; done) | (simp [*]; done), by repeat (first | exact Drawn0.refl _ | apply Drawn0.step)⟩

/-! ### culletref01_InvMod: function 33 -/
def culletref01_InvMod.f (k : Nat) (a0 : Int) (a1 : Int) : Option (Int × Int) := (culletref01_modulus.f k a1 32).bind fun t197 => (if t197 = true then ((culletref01_Degree.f k a1).bind fun t198 => ((culletref01_combine.f k a0 1 a1 t198).bind fun bt199 => (if bt199.2 = true then (some (bt199.1, 0)) else (some (0, 12))))) else (some (0, 11)))
theorem culletref01_InvMod.mono : ∀ a0 a1 k, LeO (culletref01_InvMod.f k a0 a1) (culletref01_InvMod.f (k + 1) a0 a1) := by
 intro a0 a1 k
 unfold culletref01_InvMod.f
 repeat' first
   | (with_reducible exact culletref01_Degree.mono _ _)
   | (with_reducible exact culletref01_combine.mono _ _ _ _ _)
   | (with_reducible exact culletref01_modulus.mono _ _ _)
   | (with_reducible exact LeO.refl _)
   | (with_reducible exact LeO.none _)
   | (with_reducible refine LeO.ite ?_ ?_)
   | (with_reducible refine LeO.bind ?_ (fun _ => ?_))
   | exact culletref01_Degree.mono _ _
   | exact culletref01_combine.mono _ _ _ _ _
   | exact culletref01_modulus.mono _ _ _
   | exact LeO.none _
   | refine LeO.ite ?_ ?_
   | refine LeO.bind ?_ (fun _ => ?_)
set_option maxHeartbeats 8000000 in
set_option maxRecDepth 100000 in
theorem culletref01_InvMod.calls (k : Nat) (a0 : Int) (a1 : Int) (r1 : Int) (r2 : Int) (w : World) (h : culletref01_InvMod.f k a0 a1 = some (r1, r2)) :
  Calls Tryd.prog 33 #[.int .u64 a0, .int .u64 a1] w fun e w' => e = .returned (.tuple #[.int .u64 r1, .int .i64 r2]) ∧ Below w.heap.size w w' := by
 have HB := Aside0.mk (Below.refl w.heap.size w)
 have H : ((culletref01_modulus.f k a1 32).bind fun t197 => (if t197 = true then ((culletref01_Degree.f k a1).bind fun t198 => ((culletref01_combine.f k a0 1 a1 t198).bind fun bt199 => (if bt199.2 = true then (some (bt199.1, 0)) else (some (0, 12))))) else (some (0, 11)))) = some (r1, r2) := h
 clear h
 replace H := Option.bind_eq_some_iff.mp H
 obtain ⟨t197, A30, H⟩ := H
 replace H : (if t197 = true then ((culletref01_Degree.f k a1).bind fun t198 => ((culletref01_combine.f k a0 1 a1 t198).bind fun bt199 => (if bt199.2 = true then (some (bt199.1, 0)) else (some (0, 12))))) else (some (0, 11))) = some (r1, r2) := H
 have A3 := Aside0.mk A30
 clear A30
 by_cases c4 : t197 = true
 ·subst c4
  have H1 : ((culletref01_Degree.f k a1).bind fun t198 => ((culletref01_combine.f k a0 1 a1 t198).bind fun bt199 => (if bt199.2 = true then (some (bt199.1, 0)) else (some (0, 12))))) = some (r1, r2) := by rw [if_pos rfl] at H; exact H
  clear H
  have H := H1
  clear H1
  replace H := Option.bind_eq_some_iff.mp H
  obtain ⟨t198, A50, H⟩ := H
  replace H : ((culletref01_combine.f k a0 1 a1 t198).bind fun bt199 => (if bt199.2 = true then (some (bt199.1, 0)) else (some (0, 12)))) = some (r1, r2) := H
  have A5 := Aside0.mk A50
  clear A50
  replace H := Option.bind_eq_some_iff.mp H
  obtain ⟨⟨t199, t200⟩, A60, H⟩ := H
  replace H : (if t200 = true then (some (t199, 0)) else (some (0, 12))) = some (r1, r2) := H
  have A6 := Aside0.mk A60
  clear A60
  by_cases c7 : t200 = true
  ·subst c7
   have H1 : (some (t199, 0)) = some (r1, r2) := by rw [if_pos rfl] at H; exact H
   clear H
   have H := H1
   clear H1
   simp only [Option.some.injEq, Prod.mk.injEq] at H
   obtain ⟨rfl, rfl⟩ := H
   go_enter Tryd.func33, Tryd.ntmps33
   go_wp2_with (first | ((with_reducible refine gate_callee (f := 49) rfl ?_); refine goesL_ (some 9) rfl rfl Tryd.func49 (by kernel_rfl) rfl #[.int .u64 a1, .int .i64 32] rfl (by (try simp only [List.map_toArray, List.map_cons, List.map_nil]); first | done | rfl | (simp only [tb_wrap8]; done) | (simp only [tb_wrap8]; rfl) | (simp only [List.length_drop, List.length_take]; rfl)) ?_; (with_reducible refine (culletref01_modulus.calls k a1 32 true _ A3.out).mono ?_); rintro e w' ⟨rfl, ⟨nd, rfl⟩⟩; refine ⟨_, rfl, ?_⟩) | ((with_reducible refine gate_callee (f := 18) rfl ?_); refine goesL_ (some 15) rfl rfl Tryd.func18 (by kernel_rfl) rfl #[.int .u64 a1] rfl (by (try simp only [List.map_toArray, List.map_cons, List.map_nil]); first | done | rfl | (simp only [tb_wrap8]; done) | (simp only [tb_wrap8]; rfl) | (simp only [List.length_drop, List.length_take]; rfl)) ?_; (with_reducible refine (culletref01_Degree.calls k a1 t198 _ A5.out).mono ?_); rintro e w' ⟨rfl, ⟨nd, rfl⟩⟩; refine ⟨_, rfl, ?_⟩) | ((with_reducible refine gate_callee (f := 48) rfl ?_); refine goesL_ (some 16) rfl rfl Tryd.func48 (by kernel_rfl) rfl #[.int .u64 a0, .int .u64 1, .int .u64 a1, .int .i64 t198] rfl (by (try simp only [List.map_toArray, List.map_cons, List.map_nil]); first | done | rfl | (simp only [tb_wrap8]; done) | (simp only [tb_wrap8]; rfl) | (simp only [List.length_drop, List.length_take]; rfl)) ?_; (with_reducible refine (culletref01_combine.calls k a0 1 a1 t198 t199 true _ A6.out).mono ?_); rintro e w8 ⟨rfl, hb⟩; refine ⟨_, rfl, ?_⟩; have n0_ := Aside0.mk (below_step (by repeat (first | (with_reducible first | exact HB.out | apply below_alloc | apply pw_below_drewN | apply below_drew1) | exact HB.out)) hb); clear HB; have HB := n0_; clear n0_; (try clear hb); (try clear hb2); (try clear hk); (try clear hi)))
   go_ret2
   exact ⟨by first | rfl | (simp [errW_none, errW_some] <;> rfl) | (simp [*, errW_none, errW_some] <;> rfl), by repeat (first | (with_reducible first | exact HB.out | apply below_alloc | apply pw_below_drewN | apply below_drew1) | exact HB.out)⟩
  ·replace c7 := Bool.eq_false_iff.mpr c7
   subst c7
   have H1 : (some (0, 12)) = some (r1, r2) := by rw [if_neg (show ¬ (false = true) by decide)] at H; exact H
   clear H
   have H := H1
   clear H1
   simp only [Option.some.injEq, Prod.mk.injEq] at H
   obtain ⟨rfl, rfl⟩ := H
   go_enter Tryd.func33, Tryd.ntmps33
   go_wp2_with (first | ((with_reducible refine gate_callee (f := 49) rfl ?_); refine goesL_ (some 9) rfl rfl Tryd.func49 (by kernel_rfl) rfl #[.int .u64 a1, .int .i64 32] rfl (by (try simp only [List.map_toArray, List.map_cons, List.map_nil]); first | done | rfl | (simp only [tb_wrap8]; done) | (simp only [tb_wrap8]; rfl) | (simp only [List.length_drop, List.length_take]; rfl)) ?_; (with_reducible refine (culletref01_modulus.calls k a1 32 true _ A3.out).mono ?_); rintro e w' ⟨rfl, ⟨nd, rfl⟩⟩; refine ⟨_, rfl, ?_⟩) | ((with_reducible refine gate_callee (f := 18) rfl ?_); refine goesL_ (some 15) rfl rfl Tryd.func18 (by kernel_rfl) rfl #[.int .u64 a1] rfl (by (try simp only [List.map_toArray, List.map_cons, List.map_nil]); first | done | rfl | (simp only [tb_wrap8]; done) | (simp only [tb_wrap8]; rfl) | (simp only [List.length_drop, List.length_take]; rfl)) ?_; (with_reducible refine (culletref01_Degree.calls k a1 t198 _ A5.out).mono ?_); rintro e w' ⟨rfl, ⟨nd, rfl⟩⟩; refine ⟨_, rfl, ?_⟩) | ((with_reducible refine gate_callee (f := 48) rfl ?_); refine goesL_ (some 16) rfl rfl Tryd.func48 (by kernel_rfl) rfl #[.int .u64 a0, .int .u64 1, .int .u64 a1, .int .i64 t198] rfl (by (try simp only [List.map_toArray, List.map_cons, List.map_nil]); first | done | rfl | (simp only [tb_wrap8]; done) | (simp only [tb_wrap8]; rfl) | (simp only [List.length_drop, List.length_take]; rfl)) ?_; (with_reducible refine (culletref01_combine.calls k a0 1 a1 t198 t199 false _ A6.out).mono ?_); rintro e w9 ⟨rfl, hb⟩; refine ⟨_, rfl, ?_⟩; have n0_ := Aside0.mk (below_step (by repeat (first | (with_reducible first | exact HB.out | apply below_alloc | apply pw_below_drewN | apply below_drew1) | exact HB.out)) hb); clear HB; have HB := n0_; clear n0_; (try clear hb); (try clear hb2); (try clear hk); (try clear hi)))
   go_ret2
   exact ⟨by first | rfl | (simp [errW_none, errW_some] <;> rfl) | (simp [*, errW_none, errW_some] <;> rfl), by repeat (first | (with_reducible first | exact HB.out | apply below_alloc | apply pw_below_drewN | apply below_drew1) | exact HB.out)⟩
 ·replace c4 := Bool.eq_false_iff.mpr c4
  subst c4
  have H1 : (some (0, 11)) = some (r1, r2) := by rw [if_neg (show ¬ (false = true) by decide)] at H; exact H
  clear H
  have H := H1
  clear H1
  simp only [Option.some.injEq, Prod.mk.injEq] at H
  obtain ⟨rfl, rfl⟩ := H
  go_enter Tryd.func33, Tryd.ntmps33
  go_wp2_with (first | ((with_reducible refine gate_callee (f := 49) rfl ?_); refine goesL_ (some 9) rfl rfl Tryd.func49 (by kernel_rfl) rfl #[.int .u64 a1, .int .i64 32] rfl (by (try simp only [List.map_toArray, List.map_cons, List.map_nil]); first | done | rfl | (simp only [tb_wrap8]; done) | (simp only [tb_wrap8]; rfl) | (simp only [List.length_drop, List.length_take]; rfl)) ?_; (with_reducible refine (culletref01_modulus.calls k a1 32 false _ A3.out).mono ?_); rintro e w' ⟨rfl, ⟨nd, rfl⟩⟩; refine ⟨_, rfl, ?_⟩))
  go_ret2
  exact ⟨by first | rfl | (simp [errW_none, errW_some] <;> rfl) | (simp [*, errW_none, errW_some] <;> rfl), by repeat (first | (with_reducible first | exact HB.out | apply below_alloc | apply pw_below_drewN | apply below_drew1) | exact HB.out)⟩

end Go.Proofs.YthldahaimcdejaaDoor.A
end
section
-- Printed for this claim by mp.py, a program of its prover, through the kit's print. Lean checks it.
namespace Go.Proofs.YthldahaimcdejaaDoor.A
open Go.RowKit Go.Proofs.YthldahaimcdejaaDoorW.PrintWords Go.Proofs.YthldahaimcdejaaDoorW.PrintLast Go.Proofs.YthldahaimcdejaaDoorW.PrintMore
attribute [local go_sem] max2_int min2_int max_two min_two max_three min_three max_four min_four   -- for this text's walks alone
set_option linter.unusedVariables false
set_option linter.unusedSimpArgs false

/-! ### culletref01_irreducible: function 51 -/
def culletref01_irreducible.l0 : Nat → Int → Int → Int → Option (Bool)
 | 0, _, _, _ => none
 | k + 1, x0, x3, x4 => (culletref01_Degree.f k x4).bind fun t202 => (if t202 ≤ x3 then ((culletref01_rest.f k x0 x4).bind fun t203 => (if t203 = 0 then (some false) else (culletref01_irreducible.l0 k x0 x3 (IntKind.u64.wrap (x4 + 1))))) else (some true))
def culletref01_irreducible.f (k : Nat) (a0 : Int) : Option (Bool) := (culletref01_Degree.f k a0).bind fun t201 => (culletref01_irreducible.l0 k a0 (wrap64 (Int.tdiv t201 2)) 2)
theorem culletref01_irreducible.mono_l : ∀ k, (∀ y0 y1 y2, LeO (culletref01_irreducible.l0 k y0 y1 y2) (culletref01_irreducible.l0 (k + 1) y0 y1 y2))
 | 0 => fun _ _ _ r h => by simp [culletref01_irreducible.l0] at h
 | k + 1 => by
  have ih0 := culletref01_irreducible.mono_l k
  ·intro y0 y1 y2
   unfold culletref01_irreducible.l0
   repeat' first
   | (with_reducible exact ih0 _ _ _)
   | (with_reducible exact culletref01_Degree.mono _ _)
   | (with_reducible exact culletref01_rest.mono _ _ _)
   | (with_reducible exact LeO.refl _)
   | (with_reducible exact LeO.none _)
   | (with_reducible refine LeO.ite ?_ ?_)
   | (with_reducible refine LeO.bind ?_ (fun _ => ?_))
   | exact ih0 _ _ _
   | exact culletref01_Degree.mono _ _
   | exact culletref01_rest.mono _ _ _
   | exact LeO.none _
   | refine LeO.ite ?_ ?_
   | refine LeO.bind ?_ (fun _ => ?_)
theorem culletref01_irreducible.mono : ∀ a0 k, LeO (culletref01_irreducible.f k a0) (culletref01_irreducible.f (k + 1) a0) := by
 intro a0 k
 have ih0 := culletref01_irreducible.mono_l k
 unfold culletref01_irreducible.f
 repeat' first
   | (with_reducible exact ih0 _ _ _)
   | (with_reducible exact culletref01_Degree.mono _ _)
   | (with_reducible exact culletref01_rest.mono _ _ _)
   | (with_reducible exact LeO.refl _)
   | (with_reducible exact LeO.none _)
   | (with_reducible refine LeO.ite ?_ ?_)
   | (with_reducible refine LeO.bind ?_ (fun _ => ?_))
   | exact ih0 _ _ _
   | exact culletref01_Degree.mono _ _
   | exact culletref01_rest.mono _ _ _
   | exact LeO.none _
   | refine LeO.ite ?_ ?_
   | refine LeO.bind ?_ (fun _ => ?_)
set_option maxHeartbeats 8000000 in
set_option maxRecDepth 100000 in
theorem culletref01_irreducible.calls (k : Nat) (a0 : Int) (r : Bool) (w : World) (h : culletref01_irreducible.f k a0 = some r) :
  Calls Tryd.prog 51 #[.int .u64 a0] w fun e w' => e = .returned (.bool r) ∧ Drawn0 w w' := by
 have H : ((culletref01_Degree.f k a0).bind fun t201 => (culletref01_irreducible.l0 k a0 (wrap64 (Int.tdiv t201 2)) 2)) = some r := h
 clear h
 replace H := Option.bind_eq_some_iff.mp H
 obtain ⟨t201, A20, H⟩ := H
 replace H : (culletref01_irreducible.l0 k a0 (wrap64 (Int.tdiv t201 2)) 2) = some r := H
 have A2 := Aside0.mk A20
 clear A20
 have H' := Aside0.mk H
 clear H
 go_enter Tryd.func51, Tryd.ntmps51
 go_wp2_with (first | ((with_reducible refine gate_callee (f := 18) rfl ?_); refine goesL_ (some 6) rfl rfl Tryd.func18 (by kernel_rfl) rfl #[.int .u64 a0] rfl (by (try simp only [List.map_toArray, List.map_cons, List.map_nil]); first | done | rfl | (simp only [tb_wrap8]; done) | (simp only [tb_wrap8]; rfl) | (simp only [List.length_drop, List.length_take]; rfl)) ?_; (with_reducible refine (culletref01_Degree.calls k a0 t201 _ A2.out).mono ?_); rintro e w' ⟨rfl, ⟨nd, rfl⟩⟩; refine ⟨_, rfl, ?_⟩))
 go_loopg [4] k (fun kq v4 w' => ∃ (x4_1 : Int), v4 = .int .u64 x4_1 ∧ Aside0 (culletref01_irreducible.l0 kq a0 (wrap64 (Int.tdiv t201 2)) x4_1 = some r) ∧ Aside0 (kq ≤ k) ∧ Drawn0 w w')
 case atStart => exact ⟨(2), (by first | rfl | (simp; done) | (simp [*]; done)), H', ⟨Nat.le_refl _⟩, by repeat (first | exact Drawn0.refl _ | apply Drawn0.step)⟩
 case round =>
  clear H'
  try clear c1
  try clear p2
  obtain ⟨x4_1, rfl, HA, HK1, ⟨m1, rfl⟩⟩ := hrel
  cases gk with
  | zero => exact absurd HA.out (by simp [culletref01_irreducible.l0])
  | succ k1 =>
   have H := HA.out
   clear HA
   simp only [culletref01_irreducible.l0] at H
   replace H := Option.bind_eq_some_iff.mp H
   obtain ⟨t202, A30, H⟩ := H
   replace H : (if t202 ≤ (wrap64 (Int.tdiv t201 2)) then ((culletref01_rest.f k1 a0 x4_1).bind fun t203 => (if t203 = 0 then (some false) else (culletref01_irreducible.l0 k1 a0 (wrap64 (Int.tdiv t201 2)) (IntKind.u64.wrap (x4_1 + 1))))) else (some true)) = some r := H
   have A3 := Aside0.mk A30
   clear A30
   by_cases c4 : t202 ≤ (wrap64 (Int.tdiv t201 2))
   ·rw [if_pos c4] at H
    have c4b0 : decide (t202 ≤ (wrap64 (Int.tdiv t201 2))) = true := decide_eq_true c4
    clear c4
    replace H := Option.bind_eq_some_iff.mp H
    obtain ⟨t203, A50, H⟩ := H
    replace H : (if t203 = 0 then (some false) else (culletref01_irreducible.l0 k1 a0 (wrap64 (Int.tdiv t201 2)) (IntKind.u64.wrap (x4_1 + 1)))) = some r := H
    have A5 := Aside0.mk A50
    clear A50
    by_cases c6 : t203 = 0
    ·rw [if_pos c6] at H
     have c6b0 : (t203 == 0) = true := beq_iff_eq.mpr c6
     have c6b1 : (t203 != 0) = false := bne_eq_false_iff_eq.mpr c6
     clear c6
     obtain rfl := Option.some.inj H
     go_wp2_with (first | ((with_reducible refine gate_callee (f := 18) rfl ?_); refine goesL_ (some 9) rfl rfl Tryd.func18 (by kernel_rfl) rfl #[.int .u64 x4_1] rfl (by (try simp only [List.map_toArray, List.map_cons, List.map_nil]); first | done | rfl | (simp only [tb_wrap8]; done) | (simp only [tb_wrap8]; rfl) | (simp only [List.length_drop, List.length_take]; rfl)) ?_; (with_reducible refine (culletref01_Degree.calls k1 x4_1 t202 _ A3.out).mono ?_); rintro e w' ⟨rfl, ⟨nd, rfl⟩⟩; refine ⟨_, rfl, ?_⟩) | ((with_reducible refine gate_callee (f := 60) rfl ?_); refine goesL_ (some 16) rfl rfl Tryd.func60 (by kernel_rfl) rfl #[.int .u64 a0, .int .u64 x4_1] rfl (by (try simp only [List.map_toArray, List.map_cons, List.map_nil]); first | done | rfl | (simp only [tb_wrap8]; done) | (simp only [tb_wrap8]; rfl) | (simp only [List.length_drop, List.length_take]; rfl)) ?_; (with_reducible refine (culletref01_rest.calls k1 a0 x4_1 t203 _ A5.out).mono ?_); rintro e w' ⟨rfl, ⟨nd, rfl⟩⟩; refine ⟨_, rfl, ?_⟩))
     go_ret
     exact ⟨by first | rfl | (simp; done) | (simp [*]; done), by repeat (first | exact Drawn0.refl _ | apply Drawn0.step)⟩
    ·rw [if_neg c6] at H
     have c6b0 : (t203 == 0) = false := beq_eq_false_iff_ne.mpr c6
     have c6b1 : (t203 != 0) = true := bne_iff_ne.mpr c6
     have H' := Aside0.mk H
     clear H
     go_wp2_with (first | ((with_reducible refine gate_callee (f := 18) rfl ?_); refine goesL_ (some 9) rfl rfl Tryd.func18 (by kernel_rfl) rfl #[.int .u64 x4_1] rfl (by (try simp only [List.map_toArray, List.map_cons, List.map_nil]); first | done | rfl | (simp only [tb_wrap8]; done) | (simp only [tb_wrap8]; rfl) | (simp only [List.length_drop, List.length_take]; rfl)) ?_; (with_reducible refine (culletref01_Degree.calls k1 x4_1 t202 _ A3.out).mono ?_); rintro e w' ⟨rfl, ⟨nd, rfl⟩⟩; refine ⟨_, rfl, ?_⟩) | ((with_reducible refine gate_callee (f := 60) rfl ?_); refine goesL_ (some 16) rfl rfl Tryd.func60 (by kernel_rfl) rfl #[.int .u64 a0, .int .u64 x4_1] rfl (by (try simp only [List.map_toArray, List.map_cons, List.map_nil]); first | done | rfl | (simp only [tb_wrap8]; done) | (simp only [tb_wrap8]; rfl) | (simp only [List.length_drop, List.length_take]; rfl)) ?_; (with_reducible refine (culletref01_rest.calls k1 a0 x4_1 t203 _ A5.out).mono ?_); rintro e w' ⟨rfl, ⟨nd, rfl⟩⟩; refine ⟨_, rfl, ?_⟩))
     go_roundg k1
     case measure => have := HK1.out; omega
     case rel => exact ⟨(IntKind.u64.wrap (x4_1 + 1)), (by first | rfl | (simp; done) | (simp [*]; done)), H', ⟨by have := HK1.out; omega⟩, by repeat (first | exact Drawn0.refl _ | apply Drawn0.step)⟩
   ·rw [if_neg c4] at H
    have c4b0 : decide (t202 ≤ (wrap64 (Int.tdiv t201 2))) = false := decide_eq_false c4
    clear c4
    obtain rfl := Option.some.inj H
    go_wp2_with (first | ((with_reducible refine gate_callee (f := 18) rfl ?_); refine goesL_ (some 9) rfl rfl Tryd.func18 (by kernel_rfl) rfl #[.int .u64 x4_1] rfl (by (try simp only [List.map_toArray, List.map_cons, List.map_nil]); first | done | rfl | (simp only [tb_wrap8]; done) | (simp only [tb_wrap8]; rfl) | (simp only [List.length_drop, List.length_take]; rfl)) ?_; (with_reducible refine (culletref01_Degree.calls k1 x4_1 t202 _ A3.out).mono ?_); rintro e w' ⟨rfl, ⟨nd, rfl⟩⟩; refine ⟨_, rfl, ?_⟩))
    go_ret
    exact ⟨by first | rfl | (simp; done) | (simp [*]; done), by repeat (first | exact Drawn0.refl _ | apply Drawn0.step)⟩

/-! ### culletref01_Irreducible: function 35 -/
def culletref01_Irreducible.f (k : Nat) (a0 : Int) : Option (Bool × Int) := (culletref01_modulus.f k a0 32).bind fun t204 => (if t204 = true then ((culletref01_irreducible.f k a0).bind fun t205 => (some (t205, 0))) else (some (false, 11)))
theorem culletref01_Irreducible.mono : ∀ a0 k, LeO (culletref01_Irreducible.f k a0) (culletref01_Irreducible.f (k + 1) a0) := by
 intro a0 k
 unfold culletref01_Irreducible.f
 repeat' first
   | (with_reducible exact culletref01_irreducible.mono _ _)
   | (with_reducible exact culletref01_modulus.mono _ _ _)
   | (with_reducible exact LeO.refl _)
   | (with_reducible exact LeO.none _)
   | (with_reducible refine LeO.ite ?_ ?_)
   | (with_reducible refine LeO.bind ?_ (fun _ => ?_))
   | exact culletref01_irreducible.mono _ _
   | exact culletref01_modulus.mono _ _ _
   | exact LeO.none _
   | refine LeO.ite ?_ ?_
   | refine LeO.bind ?_ (fun _ => ?_)
set_option maxHeartbeats 8000000 in
set_option maxRecDepth 100000 in
theorem culletref01_Irreducible.calls (k : Nat) (a0 : Int) (r1 : Bool) (r2 : Int) (w : World) (h : culletref01_Irreducible.f k a0 = some (r1, r2)) :
  Calls Tryd.prog 35 #[.int .u64 a0] w fun e w' => e = .returned (.tuple #[.bool r1, .int .i64 r2]) ∧ Drawn0 w w' := by
 have H : ((culletref01_modulus.f k a0 32).bind fun t204 => (if t204 = true then ((culletref01_irreducible.f k a0).bind fun t205 => (some (t205, 0))) else (some (false, 11)))) = some (r1, r2) := h
 clear h
 replace H := Option.bind_eq_some_iff.mp H
 obtain ⟨t204, A20, H⟩ := H
 replace H : (if t204 = true then ((culletref01_irreducible.f k a0).bind fun t205 => (some (t205, 0))) else (some (false, 11))) = some (r1, r2) := H
 have A2 := Aside0.mk A20
 clear A20
 by_cases c3 : t204 = true
 ·subst c3
  have H1 : ((culletref01_irreducible.f k a0).bind fun t205 => (some (t205, 0))) = some (r1, r2) := by rw [if_pos rfl] at H; exact H
  clear H
  have H := H1
  clear H1
  replace H := Option.bind_eq_some_iff.mp H
  obtain ⟨t205, A40, H⟩ := H
  replace H : (some (t205, 0)) = some (r1, r2) := H
  have A4 := Aside0.mk A40
  clear A40
  simp only [Option.some.injEq, Prod.mk.injEq] at H
  obtain ⟨rfl, rfl⟩ := H
  go_enter Tryd.func35, Tryd.ntmps35
  go_wp2_with (first | ((with_reducible refine gate_callee (f := 49) rfl ?_); refine goesL_ (some 5) rfl rfl Tryd.func49 (by kernel_rfl) rfl #[.int .u64 a0, .int .i64 32] rfl (by (try simp only [List.map_toArray, List.map_cons, List.map_nil]); first | done | rfl | (simp only [tb_wrap8]; done) | (simp only [tb_wrap8]; rfl) | (simp only [List.length_drop, List.length_take]; rfl)) ?_; (with_reducible refine (culletref01_modulus.calls k a0 32 true _ A2.out).mono ?_); rintro e w' ⟨rfl, ⟨nd, rfl⟩⟩; refine ⟨_, rfl, ?_⟩) | ((with_reducible refine gate_callee (f := 51) rfl ?_); refine goesL_ (some 8) rfl rfl Tryd.func51 (by kernel_rfl) rfl #[.int .u64 a0] rfl (by (try simp only [List.map_toArray, List.map_cons, List.map_nil]); first | done | rfl | (simp only [tb_wrap8]; done) | (simp only [tb_wrap8]; rfl) | (simp only [List.length_drop, List.length_take]; rfl)) ?_; (with_reducible refine (culletref01_irreducible.calls k a0 t205 _ A4.out).mono ?_); rintro e w' ⟨rfl, ⟨nd, rfl⟩⟩; refine ⟨_, rfl, ?_⟩))
  go_ret2
  exact ⟨by first | rfl | (simp; done) | (simp [*]; done), by repeat (first | exact Drawn0.refl _ | apply Drawn0.step)⟩
 ·replace c3 := Bool.eq_false_iff.mpr c3
  subst c3
  have H1 : (some (false, 11)) = some (r1, r2) := by rw [if_neg (show ¬ (false = true) by decide)] at H; exact H
  clear H
  have H := H1
  clear H1
  simp only [Option.some.injEq, Prod.mk.injEq] at H
  obtain ⟨rfl, rfl⟩ := H
  go_enter Tryd.func35, Tryd.ntmps35
  go_wp2_with (first | ((with_reducible refine gate_callee (f := 49) rfl ?_); refine goesL_ (some 5) rfl rfl Tryd.func49 (by kernel_rfl) rfl #[.int .u64 a0, .int .i64 32] rfl (by (try simp only [List.map_toArray, List.map_cons, List.map_nil]); first | done | rfl | (simp only [tb_wrap8]; done) | (simp only [tb_wrap8]; rfl) | (simp only [List.length_drop, List.length_take]; rfl)) ?_; (with_reducible refine (culletref01_modulus.calls k a0 32 false _ A2.out).mono ?_); rintro e w' ⟨rfl, ⟨nd, rfl⟩⟩; refine ⟨_, rfl, ?_⟩))
  go_ret2
  exact ⟨by first | rfl | (simp; done) | (simp [*]; done), by repeat (first | exact Drawn0.refl _ | apply Drawn0.step)⟩

/-! ### culletref01_order: function 52 -/
def culletref01_order.l0 : Nat → Int → Int → Int → Int → Option (Int)
 | 0, _, _, _, _ => none
 | k + 1, x0, x1, x5, x6 => if x6 < 65536 then (if x5 = 1 then (some x6) else ((culletref01_times.f k x0 x5 x1).bind fun t207 => (culletref01_order.l0 k x0 x1 t207 (wrap64 (x6 + 1))))) else (some 0)
def culletref01_order.f (k : Nat) (a0 : Int) (a1 : Int) : Option (Int) := (culletref01_rest.f k a0 a1).bind fun t206 => (culletref01_order.l0 k t206 a1 t206 1)
theorem culletref01_order.mono_l : ∀ k, (∀ y0 y1 y2 y3, LeO (culletref01_order.l0 k y0 y1 y2 y3) (culletref01_order.l0 (k + 1) y0 y1 y2 y3))
 | 0 => fun _ _ _ _ r h => by simp [culletref01_order.l0] at h
 | k + 1 => by
  have ih0 := culletref01_order.mono_l k
  ·intro y0 y1 y2 y3
   unfold culletref01_order.l0
   repeat' first
   | (with_reducible exact ih0 _ _ _ _)
   | (with_reducible exact culletref01_rest.mono _ _ _)
   | (with_reducible exact culletref01_times.mono _ _ _ _)
   | (with_reducible exact LeO.refl _)
   | (with_reducible exact LeO.none _)
   | (with_reducible refine LeO.ite ?_ ?_)
   | (with_reducible refine LeO.bind ?_ (fun _ => ?_))
   | exact ih0 _ _ _ _
   | exact culletref01_rest.mono _ _ _
   | exact culletref01_times.mono _ _ _ _
   | exact LeO.none _
   | refine LeO.ite ?_ ?_
   | refine LeO.bind ?_ (fun _ => ?_)
theorem culletref01_order.mono : ∀ a0 a1 k, LeO (culletref01_order.f k a0 a1) (culletref01_order.f (k + 1) a0 a1) := by
 intro a0 a1 k
 have ih0 := culletref01_order.mono_l k
 unfold culletref01_order.f
 repeat' first
   | (with_reducible exact ih0 _ _ _ _)
   | (with_reducible exact culletref01_rest.mono _ _ _)
   | (with_reducible exact culletref01_times.mono _ _ _ _)
   | (with_reducible exact LeO.refl _)
   | (with_reducible exact LeO.none _)
   | (with_reducible refine LeO.ite ?_ ?_)
   | (with_reducible refine LeO.bind ?_ (fun _ => ?_))
   | exact ih0 _ _ _ _
   | exact culletref01_rest.mono _ _ _
   | exact culletref01_times.mono _ _ _ _
   | exact LeO.none _
   | refine LeO.ite ?_ ?_
   | refine LeO.bind ?_ (fun _ => ?_)
set_option maxHeartbeats 8000000 in
set_option maxRecDepth 100000 in
theorem culletref01_order.calls (k : Nat) (a0 : Int) (a1 : Int) (r : Int) (w : World) (h : culletref01_order.f k a0 a1 = some r) :
  Calls Tryd.prog 52 #[.int .u64 a0, .int .u64 a1] w fun e w' => e = .returned (.int .i64 r) ∧ Drawn0 w w' := by
 have H : ((culletref01_rest.f k a0 a1).bind fun t206 => (culletref01_order.l0 k t206 a1 t206 1)) = some r := h
 clear h
 replace H := Option.bind_eq_some_iff.mp H
 obtain ⟨t206, A30, H⟩ := H
 replace H : (culletref01_order.l0 k t206 a1 t206 1) = some r := H
 have A3 := Aside0.mk A30
 clear A30
 have H' := Aside0.mk H
 clear H
 go_enter Tryd.func52, Tryd.ntmps52
 go_wp2_with (first | ((with_reducible refine gate_callee (f := 60) rfl ?_); refine goesL_ (some 9) rfl rfl Tryd.func60 (by kernel_rfl) rfl #[.int .u64 a0, .int .u64 a1] rfl (by (try simp only [List.map_toArray, List.map_cons, List.map_nil]); first | done | rfl | (simp only [tb_wrap8]; done) | (simp only [tb_wrap8]; rfl) | (simp only [List.length_drop, List.length_take]; rfl)) ?_; (with_reducible refine (culletref01_rest.calls k a0 a1 t206 _ A3.out).mono ?_); rintro e w' ⟨rfl, ⟨nd, rfl⟩⟩; refine ⟨_, rfl, ?_⟩))
 go_loopg [5, 6] k (fun kq v5 v6 w' => ∃ (x5_1 : Int) (x6_1 : Int), v5 = .int .u64 x5_1 ∧ v6 = .int .i64 x6_1 ∧ Aside0 (culletref01_order.l0 kq t206 a1 x5_1 x6_1 = some r) ∧ Aside0 (kq ≤ k) ∧ Drawn0 w w')
 case atStart => exact ⟨(t206), (1), (by first | rfl | (simp; done) | (simp [*]; done)), (by first | rfl | (simp; done) | (simp [*]; done)), H', ⟨Nat.le_refl _⟩, by repeat (first | exact Drawn0.refl _ | apply Drawn0.step)⟩
 case round =>
  clear H'
  try clear p2
  obtain ⟨x5_1, x6_1, rfl, rfl, HA, HK1, ⟨m1, rfl⟩⟩ := hrel
  cases gk with
  | zero => exact absurd HA.out (by simp [culletref01_order.l0])
  | succ k1 =>
   have H := HA.out
   clear HA
   simp only [culletref01_order.l0] at H
   by_cases c4 : x6_1 < 65536
   ·rw [if_pos c4] at H
    have c4b0 : decide (x6_1 < 65536) = true := decide_eq_true c4
    clear c4
    by_cases c5 : x5_1 = 1
    ·rw [if_pos c5] at H
     have c5b0 : (x5_1 == 1) = true := beq_iff_eq.mpr c5
     have c5b1 : (x5_1 != 1) = false := bne_eq_false_iff_eq.mpr c5
     clear c5
     obtain rfl := Option.some.inj H
     go_wp2
     go_ret
     exact ⟨by first | rfl | (simp; done) | (simp [*]; done), by repeat (first | exact Drawn0.refl _ | apply Drawn0.step)⟩
    ·rw [if_neg c5] at H
     have c5b0 : (x5_1 == 1) = false := beq_eq_false_iff_ne.mpr c5
     have c5b1 : (x5_1 != 1) = true := bne_iff_ne.mpr c5
     replace H := Option.bind_eq_some_iff.mp H
     obtain ⟨t207, A60, H⟩ := H
     replace H : (culletref01_order.l0 k1 t206 a1 t207 (wrap64 (x6_1 + 1))) = some r := H
     have A6 := Aside0.mk A60
     clear A60
     have H' := Aside0.mk H
     clear H
     go_wp2_with (first | ((with_reducible refine gate_callee (f := 50) rfl ?_); refine goesL_ (some 21) rfl rfl Tryd.func50 (by kernel_rfl) rfl #[.int .u64 t206, .int .u64 x5_1, .int .u64 a1] rfl (by (try simp only [List.map_toArray, List.map_cons, List.map_nil]); first | done | rfl | (simp only [tb_wrap8]; done) | (simp only [tb_wrap8]; rfl) | (simp only [List.length_drop, List.length_take]; rfl)) ?_; (with_reducible refine (culletref01_times.calls k1 t206 x5_1 a1 t207 _ A6.out).mono ?_); rintro e w' ⟨rfl, ⟨nd, rfl⟩⟩; refine ⟨_, rfl, ?_⟩))
     go_roundg k1
     case measure => have := HK1.out; omega
     case rel => exact ⟨(t207), (wrap64 (x6_1 + 1)), (by first | rfl | (simp; done) | (simp [*]; done)), (by first | rfl | (simp; done) | (simp [*]; done)), H', ⟨by have := HK1.out; omega⟩, by repeat (first | exact Drawn0.refl _ | apply Drawn0.step)⟩
   ·rw [if_neg c4] at H
    have c4b0 : decide (x6_1 < 65536) = false := decide_eq_false c4
    clear c4
    obtain rfl := Option.some.inj H
    go_wp2
    go_ret
    exact ⟨by first | rfl | (simp; done) | (simp [*]; done), by repeat (first | exact Drawn0.refl _ | apply Drawn0.step)⟩

/-! ### culletref01_Order: function 37 -/
def culletref01_Order.f (k : Nat) (a0 : Int) (a1 : Int) : Option (Int × Int) := (culletref01_modulus.f k a1 16).bind fun t208 => (if t208 = true then ((culletref01_Gcd.f k a0 a1).bind fun t209 => (if t209 = 1 then ((culletref01_order.f k a0 a1).bind fun t210 => (some (t210, 0))) else (some (0, 12)))) else (some (0, 11)))
theorem culletref01_Order.mono : ∀ a0 a1 k, LeO (culletref01_Order.f k a0 a1) (culletref01_Order.f (k + 1) a0 a1) := by
 intro a0 a1 k
 unfold culletref01_Order.f
 repeat' first
   | (with_reducible exact culletref01_Gcd.mono _ _ _)
   | (with_reducible exact culletref01_modulus.mono _ _ _)
   | (with_reducible exact culletref01_order.mono _ _ _)
   | (with_reducible exact LeO.refl _)
   | (with_reducible exact LeO.none _)
   | (with_reducible refine LeO.ite ?_ ?_)
   | (with_reducible refine LeO.bind ?_ (fun _ => ?_))
   | exact culletref01_Gcd.mono _ _ _
   | exact culletref01_modulus.mono _ _ _
   | exact culletref01_order.mono _ _ _
   | exact LeO.none _
   | refine LeO.ite ?_ ?_
   | refine LeO.bind ?_ (fun _ => ?_)
set_option maxHeartbeats 8000000 in
set_option maxRecDepth 100000 in
theorem culletref01_Order.calls (k : Nat) (a0 : Int) (a1 : Int) (r1 : Int) (r2 : Int) (w : World) (h : culletref01_Order.f k a0 a1 = some (r1, r2)) :
  Calls Tryd.prog 37 #[.int .u64 a0, .int .u64 a1] w fun e w' => e = .returned (.tuple #[.int .i64 r1, .int .i64 r2]) ∧ Drawn0 w w' := by
 have H : ((culletref01_modulus.f k a1 16).bind fun t208 => (if t208 = true then ((culletref01_Gcd.f k a0 a1).bind fun t209 => (if t209 = 1 then ((culletref01_order.f k a0 a1).bind fun t210 => (some (t210, 0))) else (some (0, 12)))) else (some (0, 11)))) = some (r1, r2) := h
 clear h
 replace H := Option.bind_eq_some_iff.mp H
 obtain ⟨t208, A30, H⟩ := H
 replace H : (if t208 = true then ((culletref01_Gcd.f k a0 a1).bind fun t209 => (if t209 = 1 then ((culletref01_order.f k a0 a1).bind fun t210 => (some (t210, 0))) else (some (0, 12)))) else (some (0, 11))) = some (r1, r2) := H
 have A3 := Aside0.mk A30
 clear A30
 by_cases c4 : t208 = true
 ·subst c4
  have H1 : ((culletref01_Gcd.f k a0 a1).bind fun t209 => (if t209 = 1 then ((culletref01_order.f k a0 a1).bind fun t210 => (some (t210, 0))) else (some (0, 12)))) = some (r1, r2) := by rw [if_pos rfl] at H; exact H
  clear H
  have H := H1
  clear H1
  replace H := Option.bind_eq_some_iff.mp H
  obtain ⟨t209, A50, H⟩ := H
  replace H : (if t209 = 1 then ((culletref01_order.f k a0 a1).bind fun t210 => (some (t210, 0))) else (some (0, 12))) = some (r1, r2) := H
  have A5 := Aside0.mk A50
  clear A50
  by_cases c6 : t209 = 1
  ·rw [if_pos c6] at H
   have c6b0 : (t209 == 1) = true := beq_iff_eq.mpr c6
   have c6b1 : (t209 != 1) = false := bne_eq_false_iff_eq.mpr c6
   clear c6
   replace H := Option.bind_eq_some_iff.mp H
   obtain ⟨t210, A70, H⟩ := H
   replace H : (some (t210, 0)) = some (r1, r2) := H
   have A7 := Aside0.mk A70
   clear A70
   simp only [Option.some.injEq, Prod.mk.injEq] at H
   obtain ⟨rfl, rfl⟩ := H
   go_enter Tryd.func37, Tryd.ntmps37
   go_wp2_with (first | ((with_reducible refine gate_callee (f := 49) rfl ?_); refine goesL_ (some 7) rfl rfl Tryd.func49 (by kernel_rfl) rfl #[.int .u64 a1, .int .i64 16] rfl (by (try simp only [List.map_toArray, List.map_cons, List.map_nil]); first | done | rfl | (simp only [tb_wrap8]; done) | (simp only [tb_wrap8]; rfl) | (simp only [List.length_drop, List.length_take]; rfl)) ?_; (with_reducible refine (culletref01_modulus.calls k a1 16 true _ A3.out).mono ?_); rintro e w' ⟨rfl, ⟨nd, rfl⟩⟩; refine ⟨_, rfl, ?_⟩) | ((with_reducible refine gate_callee (f := 25) rfl ?_); refine goesL_ (some 11) rfl rfl Tryd.func25 (by kernel_rfl) rfl #[.int .u64 a0, .int .u64 a1] rfl (by (try simp only [List.map_toArray, List.map_cons, List.map_nil]); first | done | rfl | (simp only [tb_wrap8]; done) | (simp only [tb_wrap8]; rfl) | (simp only [List.length_drop, List.length_take]; rfl)) ?_; (with_reducible refine (culletref01_Gcd.calls k a0 a1 t209 _ A5.out).mono ?_); rintro e w' ⟨rfl, ⟨nd, rfl⟩⟩; refine ⟨_, rfl, ?_⟩) | ((with_reducible refine gate_callee (f := 52) rfl ?_); refine goesL_ (some 15) rfl rfl Tryd.func52 (by kernel_rfl) rfl #[.int .u64 a0, .int .u64 a1] rfl (by (try simp only [List.map_toArray, List.map_cons, List.map_nil]); first | done | rfl | (simp only [tb_wrap8]; done) | (simp only [tb_wrap8]; rfl) | (simp only [List.length_drop, List.length_take]; rfl)) ?_; (with_reducible refine (culletref01_order.calls k a0 a1 t210 _ A7.out).mono ?_); rintro e w' ⟨rfl, ⟨nd, rfl⟩⟩; refine ⟨_, rfl, ?_⟩))
   go_ret2
   exact ⟨by first | rfl | (simp; done) | (simp [*]; done), by repeat (first | exact Drawn0.refl _ | apply Drawn0.step)⟩
  ·rw [if_neg c6] at H
   have c6b0 : (t209 == 1) = false := beq_eq_false_iff_ne.mpr c6
   have c6b1 : (t209 != 1) = true := bne_iff_ne.mpr c6
   simp only [Option.some.injEq, Prod.mk.injEq] at H
   obtain ⟨rfl, rfl⟩ := H
   go_enter Tryd.func37, Tryd.ntmps37
   go_wp2_with (first | ((with_reducible refine gate_callee (f := 49) rfl ?_); refine goesL_ (some 7) rfl rfl Tryd.func49 (by kernel_rfl) rfl #[.int .u64 a1, .int .i64 16] rfl (by (try simp only [List.map_toArray, List.map_cons, List.map_nil]); first | done | rfl | (simp only [tb_wrap8]; done) | (simp only [tb_wrap8]; rfl) | (simp only [List.length_drop, List.length_take]; rfl)) ?_; (with_reducible refine (culletref01_modulus.calls k a1 16 true _ A3.out).mono ?_); rintro e w' ⟨rfl, ⟨nd, rfl⟩⟩; refine ⟨_, rfl, ?_⟩) | ((with_reducible refine gate_callee (f := 25) rfl ?_); refine goesL_ (some 11) rfl rfl Tryd.func25 (by kernel_rfl) rfl #[.int .u64 a0, .int .u64 a1] rfl (by (try simp only [List.map_toArray, List.map_cons, List.map_nil]); first | done | rfl | (simp only [tb_wrap8]; done) | (simp only [tb_wrap8]; rfl) | (simp only [List.length_drop, List.length_take]; rfl)) ?_; (with_reducible refine (culletref01_Gcd.calls k a0 a1 t209 _ A5.out).mono ?_); rintro e w' ⟨rfl, ⟨nd, rfl⟩⟩; refine ⟨_, rfl, ?_⟩))
   go_ret2
   exact ⟨by first | rfl | (simp; done) | (simp [*]; done), by repeat (first | exact Drawn0.refl _ | apply Drawn0.step)⟩
 ·replace c4 := Bool.eq_false_iff.mpr c4
  subst c4
  have H1 : (some (0, 11)) = some (r1, r2) := by rw [if_neg (show ¬ (false = true) by decide)] at H; exact H
  clear H
  have H := H1
  clear H1
  simp only [Option.some.injEq, Prod.mk.injEq] at H
  obtain ⟨rfl, rfl⟩ := H
  go_enter Tryd.func37, Tryd.ntmps37
  go_wp2_with (first | ((with_reducible refine gate_callee (f := 49) rfl ?_); refine goesL_ (some 7) rfl rfl Tryd.func49 (by kernel_rfl) rfl #[.int .u64 a1, .int .i64 16] rfl (by (try simp only [List.map_toArray, List.map_cons, List.map_nil]); first | done | rfl | (simp only [tb_wrap8]; done) | (simp only [tb_wrap8]; rfl) | (simp only [List.length_drop, List.length_take]; rfl)) ?_; (with_reducible refine (culletref01_modulus.calls k a1 16 false _ A3.out).mono ?_); rintro e w' ⟨rfl, ⟨nd, rfl⟩⟩; refine ⟨_, rfl, ?_⟩))
  go_ret2
  exact ⟨by first | rfl | (simp; done) | (simp [*]; done), by repeat (first | exact Drawn0.refl _ | apply Drawn0.step)⟩

/-! ### culletref01_Primitive: function 39 -/
def culletref01_Primitive.f (k : Nat) (a0 : Int) : Option (Bool × Int) := (culletref01_modulus.f k a0 16).bind fun t211 => (if t211 = true then ((culletref01_irreducible.f k a0).bind fun t212 => (if t212 = true then ((culletref01_order.f k 2 a0).bind fun t213 => ((culletref01_Degree.f k a0).bind fun t214 => (if 0 ≤ (IntKind.u64.wrap (t214)) then (some ((t213 == (wrap64 ((shl .i64 1 (IntKind.u64.wrap (t214))) - 1))), 0)) else (none)))) else (some (false, 0)))) else (some (false, 11)))
theorem culletref01_Primitive.mono : ∀ a0 k, LeO (culletref01_Primitive.f k a0) (culletref01_Primitive.f (k + 1) a0) := by
 intro a0 k
 unfold culletref01_Primitive.f
 repeat' first
   | (with_reducible exact culletref01_Degree.mono _ _)
   | (with_reducible exact culletref01_irreducible.mono _ _)
   | (with_reducible exact culletref01_modulus.mono _ _ _)
   | (with_reducible exact culletref01_order.mono _ _ _)
   | (with_reducible exact LeO.refl _)
   | (with_reducible exact LeO.none _)
   | (with_reducible refine LeO.ite ?_ ?_)
   | (with_reducible refine LeO.bind ?_ (fun _ => ?_))
   | exact culletref01_Degree.mono _ _
   | exact culletref01_irreducible.mono _ _
   | exact culletref01_modulus.mono _ _ _
   | exact culletref01_order.mono _ _ _
   | exact LeO.none _
   | refine LeO.ite ?_ ?_
   | refine LeO.bind ?_ (fun _ => ?_)
set_option maxHeartbeats 8000000 in
set_option maxRecDepth 100000 in
theorem culletref01_Primitive.calls (k : Nat) (a0 : Int) (r1 : Bool) (r2 : Int) (w : World) (h : culletref01_Primitive.f k a0 = some (r1, r2)) :
  Calls Tryd.prog 39 #[.int .u64 a0] w fun e w' => e = .returned (.tuple #[.bool r1, .int .i64 r2]) ∧ Drawn0 w w' := by
 have H : ((culletref01_modulus.f k a0 16).bind fun t211 => (if t211 = true then ((culletref01_irreducible.f k a0).bind fun t212 => (if t212 = true then ((culletref01_order.f k 2 a0).bind fun t213 => ((culletref01_Degree.f k a0).bind fun t214 => (if 0 ≤ (IntKind.u64.wrap (t214)) then (some ((t213 == (wrap64 ((shl .i64 1 (IntKind.u64.wrap (t214))) - 1))), 0)) else (none)))) else (some (false, 0)))) else (some (false, 11)))) = some (r1, r2) := h
 clear h
 replace H := Option.bind_eq_some_iff.mp H
 obtain ⟨t211, A20, H⟩ := H
 replace H : (if t211 = true then ((culletref01_irreducible.f k a0).bind fun t212 => (if t212 = true then ((culletref01_order.f k 2 a0).bind fun t213 => ((culletref01_Degree.f k a0).bind fun t214 => (if 0 ≤ (IntKind.u64.wrap (t214)) then (some ((t213 == (wrap64 ((shl .i64 1 (IntKind.u64.wrap (t214))) - 1))), 0)) else (none)))) else (some (false, 0)))) else (some (false, 11))) = some (r1, r2) := H
 have A2 := Aside0.mk A20
 clear A20
 by_cases c3 : t211 = true
 ·subst c3
  have H1 : ((culletref01_irreducible.f k a0).bind fun t212 => (if t212 = true then ((culletref01_order.f k 2 a0).bind fun t213 => ((culletref01_Degree.f k a0).bind fun t214 => (if 0 ≤ (IntKind.u64.wrap (t214)) then (some ((t213 == (wrap64 ((shl .i64 1 (IntKind.u64.wrap (t214))) - 1))), 0)) else (none)))) else (some (false, 0)))) = some (r1, r2) := by rw [if_pos rfl] at H; exact H
  clear H
  have H := H1
  clear H1
  replace H := Option.bind_eq_some_iff.mp H
  obtain ⟨t212, A40, H⟩ := H
  replace H : (if t212 = true then ((culletref01_order.f k 2 a0).bind fun t213 => ((culletref01_Degree.f k a0).bind fun t214 => (if 0 ≤ (IntKind.u64.wrap (t214)) then (some ((t213 == (wrap64 ((shl .i64 1 (IntKind.u64.wrap (t214))) - 1))), 0)) else (none)))) else (some (false, 0))) = some (r1, r2) := H
  have A4 := Aside0.mk A40
  clear A40
  by_cases c5 : t212 = true
  ·subst c5
   have H1 : ((culletref01_order.f k 2 a0).bind fun t213 => ((culletref01_Degree.f k a0).bind fun t214 => (if 0 ≤ (IntKind.u64.wrap (t214)) then (some ((t213 == (wrap64 ((shl .i64 1 (IntKind.u64.wrap (t214))) - 1))), 0)) else (none)))) = some (r1, r2) := by rw [if_pos rfl] at H; exact H
   clear H
   have H := H1
   clear H1
   replace H := Option.bind_eq_some_iff.mp H
   obtain ⟨t213, A60, H⟩ := H
   replace H : ((culletref01_Degree.f k a0).bind fun t214 => (if 0 ≤ (IntKind.u64.wrap (t214)) then (some ((t213 == (wrap64 ((shl .i64 1 (IntKind.u64.wrap (t214))) - 1))), 0)) else (none))) = some (r1, r2) := H
   have A6 := Aside0.mk A60
   clear A60
   replace H := Option.bind_eq_some_iff.mp H
   obtain ⟨t214, A70, H⟩ := H
   replace H : (if 0 ≤ (IntKind.u64.wrap (t214)) then (some ((t213 == (wrap64 ((shl .i64 1 (IntKind.u64.wrap (t214))) - 1))), 0)) else (none)) = some (r1, r2) := H
   have A7 := Aside0.mk A70
   clear A70
   obtain ⟨ji8, hji8⟩ : ∃ j_ : Int, (IntKind.u64.wrap (t214)) = j_ := ⟨_, rfl⟩
   replace H : (if 0 ≤ (ji8) then (some ((t213 == (wrap64 ((shl .i64 1 (ji8)) - 1))), 0)) else (none)) = some (r1, r2) := by first | (rw [hji8] at H; exact H) | (simp only [hji8] at H ⊢; exact H)
   (try rw [hji8] at A2)
   (try rw [hji8] at A4)
   (try rw [hji8] at A6)
   (try rw [hji8] at A7)
   by_cases c9 : 0 ≤ (ji8)
   ·rw [if_pos c9] at H
    have c9b0 := eq_true c9
    have c9b1 : decide (0 ≤ (ji8)) = true := decide_eq_true c9
    clear c9
    obtain ⟨ji10, hji10⟩ : ∃ j_ : Int, (shl .i64 1 (ji8)) = j_ := ⟨_, rfl⟩
    replace H : (some ((t213 == (wrap64 ((ji10) - 1))), 0)) = some (r1, r2) := by first | (rw [hji10] at H; exact H) | (simp only [hji10] at H ⊢; exact H)
    (try rw [hji10] at A2)
    (try rw [hji10] at A4)
    (try rw [hji10] at A6)
    (try rw [hji10] at A7)
    have hji10_ : (IntKind.i64.wrap (1 * 2 ^ min (ji8).toNat 64)) = ji10 := hji10
    have hji10z : (ji8) ≤ 64 → (IntKind.i64.wrap (1 * 2 ^ (ji8).toNat)) = ji10 := shl_small hji10
    have hji10u : (IntKind.i64.wrap (2 ^ min (ji8).toNat 64)) = ji10 := by have h_ := hji10_; rw [Int.one_mul] at h_; exact h_
    have hji10v : (ji8) ≤ 64 → (IntKind.i64.wrap (2 ^ (ji8).toNat)) = ji10 := fun hle_ => by have h_ := hji10z hle_; rw [Int.one_mul] at h_; exact h_
    have hji10y : (wrap64 (1 * 2 ^ min (ji8).toNat 64)) = ji10 := (i64_w _).symm.trans hji10_
    have hji10x : (ji8) ≤ 64 → (wrap64 (1 * 2 ^ (ji8).toNat)) = ji10 := fun h_ => (i64_w _).symm.trans (hji10z h_)
    simp only [Option.some.injEq, Prod.mk.injEq] at H
    obtain ⟨rfl, rfl⟩ := H
    go_enter Tryd.func39, Tryd.ntmps39
    go_wp2_with (first | ((with_reducible refine gate_callee (f := 49) rfl ?_); refine goesL_ (some 5) rfl rfl Tryd.func49 (by kernel_rfl) rfl #[.int .u64 a0, .int .i64 16] rfl (by (try simp only [List.map_toArray, List.map_cons, List.map_nil]); first | done | rfl | (simp only [tb_wrap8]; done) | (simp only [tb_wrap8]; rfl) | (simp only [List.length_drop, List.length_take]; rfl)) ?_; (with_reducible refine (culletref01_modulus.calls k a0 16 true _ A2.out).mono ?_); rintro e w' ⟨rfl, ⟨nd, rfl⟩⟩; refine ⟨_, rfl, ?_⟩) | ((with_reducible refine gate_callee (f := 51) rfl ?_); refine goesL_ (some 8) rfl rfl Tryd.func51 (by kernel_rfl) rfl #[.int .u64 a0] rfl (by (try simp only [List.map_toArray, List.map_cons, List.map_nil]); first | done | rfl | (simp only [tb_wrap8]; done) | (simp only [tb_wrap8]; rfl) | (simp only [List.length_drop, List.length_take]; rfl)) ?_; (with_reducible refine (culletref01_irreducible.calls k a0 true _ A4.out).mono ?_); rintro e w' ⟨rfl, ⟨nd, rfl⟩⟩; refine ⟨_, rfl, ?_⟩) | ((with_reducible refine gate_callee (f := 52) rfl ?_); refine goesL_ (some 11) rfl rfl Tryd.func52 (by kernel_rfl) rfl #[.int .u64 2, .int .u64 a0] rfl (by (try simp only [List.map_toArray, List.map_cons, List.map_nil]); first | done | rfl | (simp only [tb_wrap8]; done) | (simp only [tb_wrap8]; rfl) | (simp only [List.length_drop, List.length_take]; rfl)) ?_; (with_reducible refine (culletref01_order.calls k 2 a0 t213 _ A6.out).mono ?_); rintro e w' ⟨rfl, ⟨nd, rfl⟩⟩; refine ⟨_, rfl, ?_⟩) | ((with_reducible refine gate_callee (f := 18) rfl ?_); refine goesL_ (some 13) rfl rfl Tryd.func18 (by kernel_rfl) rfl #[.int .u64 a0] rfl (by (try simp only [List.map_toArray, List.map_cons, List.map_nil]); first | done | rfl | (simp only [tb_wrap8]; done) | (simp only [tb_wrap8]; rfl) | (simp only [List.length_drop, List.length_take]; rfl)) ?_; (with_reducible refine (culletref01_Degree.calls k a0 t214 _ A7.out).mono ?_); rintro e w' ⟨rfl, ⟨nd, rfl⟩⟩; refine ⟨_, rfl, ?_⟩))
    go_ret2
    exact ⟨by first | rfl | (simp; done) | (simp only [← hji8, ← hji10] <;> (first | rfl | simp)) | (simp [*]; done), by repeat (first | exact Drawn0.refl _ | apply Drawn0.step)⟩
   ·rw [if_neg c9] at H
    exact absurd H (by simp)
  ·replace c5 := Bool.eq_false_iff.mpr c5
   subst c5
   have H1 : (some (false, 0)) = some (r1, r2) := by rw [if_neg (show ¬ (false = true) by decide)] at H; exact H
   clear H
   have H := H1
   clear H1
   simp only [Option.some.injEq, Prod.mk.injEq] at H
   obtain ⟨rfl, rfl⟩ := H
   go_enter Tryd.func39, Tryd.ntmps39
   go_wp2_with (first | ((with_reducible refine gate_callee (f := 49) rfl ?_); refine goesL_ (some 5) rfl rfl Tryd.func49 (by kernel_rfl) rfl #[.int .u64 a0, .int .i64 16] rfl (by (try simp only [List.map_toArray, List.map_cons, List.map_nil]); first | done | rfl | (simp only [tb_wrap8]; done) | (simp only [tb_wrap8]; rfl) | (simp only [List.length_drop, List.length_take]; rfl)) ?_; (with_reducible refine (culletref01_modulus.calls k a0 16 true _ A2.out).mono ?_); rintro e w' ⟨rfl, ⟨nd, rfl⟩⟩; refine ⟨_, rfl, ?_⟩) | ((with_reducible refine gate_callee (f := 51) rfl ?_); refine goesL_ (some 8) rfl rfl Tryd.func51 (by kernel_rfl) rfl #[.int .u64 a0] rfl (by (try simp only [List.map_toArray, List.map_cons, List.map_nil]); first | done | rfl | (simp only [tb_wrap8]; done) | (simp only [tb_wrap8]; rfl) | (simp only [List.length_drop, List.length_take]; rfl)) ?_; (with_reducible refine (culletref01_irreducible.calls k a0 false _ A4.out).mono ?_); rintro e w' ⟨rfl, ⟨nd, rfl⟩⟩; refine ⟨_, rfl, ?_⟩))
   go_ret2
   exact ⟨by first | rfl | (simp; done) | (simp [*]; done), by repeat (first | exact Drawn0.refl _ | apply Drawn0.step)⟩
 ·replace c3 := Bool.eq_false_iff.mpr c3
  subst c3
  have H1 : (some (false, 11)) = some (r1, r2) := by rw [if_neg (show ¬ (false = true) by decide)] at H; exact H
  clear H
  have H := H1
  clear H1
  simp only [Option.some.injEq, Prod.mk.injEq] at H
  obtain ⟨rfl, rfl⟩ := H
  go_enter Tryd.func39, Tryd.ntmps39
  go_wp2_with (first | ((with_reducible refine gate_callee (f := 49) rfl ?_); refine goesL_ (some 5) rfl rfl Tryd.func49 (by kernel_rfl) rfl #[.int .u64 a0, .int .i64 16] rfl (by (try simp only [List.map_toArray, List.map_cons, List.map_nil]); first | done | rfl | (simp only [tb_wrap8]; done) | (simp only [tb_wrap8]; rfl) | (simp only [List.length_drop, List.length_take]; rfl)) ?_; (with_reducible refine (culletref01_modulus.calls k a0 16 false _ A2.out).mono ?_); rintro e w' ⟨rfl, ⟨nd, rfl⟩⟩; refine ⟨_, rfl, ?_⟩))
  go_ret2
  exact ⟨by first | rfl | (simp; done) | (simp [*]; done), by repeat (first | exact Drawn0.refl _ | apply Drawn0.step)⟩

end Go.Proofs.YthldahaimcdejaaDoor.A
end
