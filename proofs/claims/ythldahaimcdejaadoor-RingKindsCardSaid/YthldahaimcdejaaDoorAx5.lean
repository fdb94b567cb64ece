import Derived.Test.YthldahaimcdejaaDoorAx0
-- Printed for this claim by mp.py, a program of its prover, through the kit's print. Lean checks it.
namespace Go.Proofs.YthldahaimcdejaaDoor.A
open Go.RowKit Go.Proofs.YthldahaimcdejaaDoorW.PrintWords Go.Proofs.YthldahaimcdejaaDoorW.PrintLast Go.Proofs.YthldahaimcdejaaDoorW.PrintMore
attribute [local go_sem] max2_int min2_int max_two min_two max_three min_three max_four min_four   -- for this text's walks alone
set_option linter.unusedVariables false
set_option linter.unusedSimpArgs false

/-! ### culletref01_Degree: function 18 -/
def culletref01_Degree.l0 : Nat → Int → Int → Option (Int)
 | 0, _, _ => none
 | k + 1, x0, x3 => if x0 > 0 then (culletref01_Degree.l0 k (IntKind.u64.wrap (Int.tdiv x0 2)) (wrap64 (x3 + 1))) else (some x3)
def culletref01_Degree.f (k : Nat) (a0 : Int) : Option (Int) := culletref01_Degree.l0 k a0 (-1)
theorem culletref01_Degree.mono_l : ∀ k, (∀ y0 y1, LeO (culletref01_Degree.l0 k y0 y1) (culletref01_Degree.l0 (k + 1) y0 y1))
 | 0 => fun _ _ r h => by simp [culletref01_Degree.l0] at h
 | k + 1 => by
  have ih0 := culletref01_Degree.mono_l k
  ·intro y0 y1
   unfold culletref01_Degree.l0
   repeat' first
   | (with_reducible exact ih0 _ _)
   | (with_reducible exact LeO.refl _)
   | (with_reducible exact LeO.none _)
   | (with_reducible refine LeO.ite ?_ ?_)
   | (with_reducible refine LeO.bind ?_ (fun _ => ?_))
   | exact ih0 _ _
   | exact LeO.none _
   | refine LeO.ite ?_ ?_
   | refine LeO.bind ?_ (fun _ => ?_)
theorem culletref01_Degree.mono : ∀ a0 k, LeO (culletref01_Degree.f k a0) (culletref01_Degree.f (k + 1) a0) := by
 intro a0 k
 have ih0 := culletref01_Degree.mono_l k
 unfold culletref01_Degree.f
 repeat' first
   | (with_reducible exact ih0 _ _)
   | (with_reducible exact LeO.refl _)
   | (with_reducible exact LeO.none _)
   | (with_reducible refine LeO.ite ?_ ?_)
   | (with_reducible refine LeO.bind ?_ (fun _ => ?_))
   | exact ih0 _ _
   | exact LeO.none _
   | refine LeO.ite ?_ ?_
   | refine LeO.bind ?_ (fun _ => ?_)
set_option maxHeartbeats 8000000 in
set_option maxRecDepth 100000 in
theorem culletref01_Degree.calls (k : Nat) (a0 : Int) (r : Int) (w : World) (h : culletref01_Degree.f k a0 = some r) :
  Calls Tryd.prog 18 #[.int .u64 a0] w fun e w' => e = .returned (.int .i64 r) ∧ Drawn0 w w' := by
 have H : (culletref01_Degree.l0 k a0 (-1)) = some r := h
 clear h
 have H' := Aside0.mk H
 clear H
 go_enter Tryd.func18, Tryd.ntmps18
 go_wp2
 go_loopg [0, 3] k (fun kq v0 v3 w' => ∃ (x0_1 : Int) (x3_1 : Int), v0 = .int .u64 x0_1 ∧ v3 = .int .i64 x3_1 ∧ Aside0 (culletref01_Degree.l0 kq x0_1 x3_1 = some r) ∧ Aside0 (kq ≤ k) ∧ Drawn0 w w')
 case atStart => exact ⟨(a0), ((-1)), (by first | rfl | (simp; done) | (simp [*]; done)), (by first | rfl | (simp; done) | (simp [*]; done)), H', ⟨Nat.le_refl _⟩, by repeat (first | exact Drawn0.refl _ | apply Drawn0.step)⟩
 case round =>
  clear H'
  try clear c1
  obtain ⟨x0_1, x3_1, rfl, rfl, HA, HK1, ⟨m1, rfl⟩⟩ := hrel
  cases gk with
  | zero => exact absurd HA.out (by simp [culletref01_Degree.l0])
  | succ k1 =>
   have H := HA.out
   clear HA
   simp only [culletref01_Degree.l0] at H
   by_cases c2 : x0_1 > 0
   ·rw [if_pos c2] at H
    have c2b0 : decide (0 < x0_1) = true := decide_eq_true c2
    clear c2
    have H' := Aside0.mk H
    clear H
    go_wp2
    go_roundg k1
    case measure => have := HK1.out; omega
    case rel => exact ⟨(IntKind.u64.wrap (Int.tdiv x0_1 2)), (wrap64 (x3_1 + 1)), (by first | rfl | (simp; done) | (simp [*]; done)), (by first | rfl | (simp; done) | (simp [*]; done)), H', ⟨by have := HK1.out; omega⟩, by repeat (first | exact Drawn0.refl _ | apply Drawn0.step)⟩
   ·rw [if_neg c2] at H
    have c2b0 : decide (0 < x0_1) = false := decide_eq_false c2
    clear c2
    obtain rfl := Option.some.inj H
    go_wp2
    go_ret
    exact ⟨by first | rfl | (simp; done) | (simp [*]; done), by repeat (first | exact Drawn0.refl _ | apply Drawn0.step)⟩

/-! ### culletref01_rest: function 60 -/
def culletref01_rest.l0 : Nat → Int → Int → Int → Int → Option (Int)
 | 0, _, _, _, _ => none
 | k + 1, x0, x1, x5, x6 => if x6 ≥ x5 then (if 0 ≤ (IntKind.u64.wrap (x6)) then (if (Go.bits .and .u64 (shr .u64 x0 (IntKind.u64.wrap (x6))) 1) = 1 then (if 0 ≤ (IntKind.u64.wrap (wrap64 (x6 - x5))) then (culletref01_rest.l0 k (Go.bits .xor .u64 x0 (shl .u64 x1 (IntKind.u64.wrap (wrap64 (x6 - x5))))) x1 x5 (wrap64 (x6 - 1))) else (none)) else (culletref01_rest.l0 k x0 x1 x5 (wrap64 (x6 - 1)))) else (none)) else (some x0)
def culletref01_rest.f (k : Nat) (a0 : Int) (a1 : Int) : Option (Int) := (culletref01_Degree.f k a1).bind fun t164 => ((culletref01_Degree.f k a0).bind fun t165 => (culletref01_rest.l0 k a0 a1 t164 t165))
theorem culletref01_rest.mono_l : ∀ k, (∀ y0 y1 y2 y3, LeO (culletref01_rest.l0 k y0 y1 y2 y3) (culletref01_rest.l0 (k + 1) y0 y1 y2 y3))
 | 0 => fun _ _ _ _ r h => by simp [culletref01_rest.l0] at h
 | k + 1 => by
  have ih0 := culletref01_rest.mono_l k
  ·intro y0 y1 y2 y3
   unfold culletref01_rest.l0
   repeat' first
   | (with_reducible exact ih0 _ _ _ _)
   | (with_reducible exact culletref01_Degree.mono _ _)
   | (with_reducible exact LeO.refl _)
   | (with_reducible exact LeO.none _)
   | (with_reducible refine LeO.ite ?_ ?_)
   | (with_reducible refine LeO.bind ?_ (fun _ => ?_))
   | exact ih0 _ _ _ _
   | exact culletref01_Degree.mono _ _
   | exact LeO.none _
   | refine LeO.ite ?_ ?_
   | refine LeO.bind ?_ (fun _ => ?_)
theorem culletref01_rest.mono : ∀ a0 a1 k, LeO (culletref01_rest.f k a0 a1) (culletref01_rest.f (k + 1) a0 a1) := by
 intro a0 a1 k
 have ih0 := culletref01_rest.mono_l k
 unfold culletref01_rest.f
 repeat' first
   | (with_reducible exact ih0 _ _ _ _)
   | (with_reducible exact culletref01_Degree.mono _ _)
   | (with_reducible exact LeO.refl _)
   | (with_reducible exact LeO.none _)
   | (with_reducible refine LeO.ite ?_ ?_)
   | (with_reducible refine LeO.bind ?_ (fun _ => ?_))
   | exact ih0 _ _ _ _
   | exact culletref01_Degree.mono _ _
   | exact LeO.none _
   | refine LeO.ite ?_ ?_
   | refine LeO.bind ?_ (fun _ => ?_)
set_option maxHeartbeats 8000000 in
set_option maxRecDepth 100000 in
theorem culletref01_rest.calls (k : Nat) (a0 : Int) (a1 : Int) (r : Int) (w : World) (h : culletref01_rest.f k a0 a1 = some r) :
  Calls Tryd.prog 60 #[.int .u64 a0, .int .u64 a1] w fun e w' => e = .returned (.int .u64 r) ∧ Drawn0 w w' := by
 have H : ((culletref01_Degree.f k a1).bind fun t164 => ((culletref01_Degree.f k a0).bind fun t165 => (culletref01_rest.l0 k a0 a1 t164 t165))) = some r := h
 clear h
 replace H := Option.bind_eq_some_iff.mp H
 obtain ⟨t164, A30, H⟩ := H
 replace H : ((culletref01_Degree.f k a0).bind fun t165 => (culletref01_rest.l0 k a0 a1 t164 t165)) = some r := H
 have A3 := Aside0.mk A30
 clear A30
 replace H := Option.bind_eq_some_iff.mp H
 obtain ⟨t165, A40, H⟩ := H
 replace H : (culletref01_rest.l0 k a0 a1 t164 t165) = some r := H
 have A4 := Aside0.mk A40
 clear A40
 have H' := Aside0.mk H
 clear H
 go_enter Tryd.func60, Tryd.ntmps60
 go_wp2_with (first | ((with_reducible refine gate_callee (f := 18) rfl ?_); refine goesL_ (some 8) rfl rfl Tryd.func18 (by kernel_rfl) rfl #[.int .u64 a1] rfl (by (try simp only [List.map_toArray, List.map_cons, List.map_nil]); first | done | rfl | (simp only [tb_wrap8]; done) | (simp only [tb_wrap8]; rfl) | (simp only [List.length_drop, List.length_take]; rfl)) ?_; (with_reducible refine (culletref01_Degree.calls k a1 t164 _ A3.out).mono ?_); rintro e w' ⟨rfl, ⟨nd, rfl⟩⟩; refine ⟨_, rfl, ?_⟩) | ((with_reducible refine gate_callee (f := 18) rfl ?_); refine goesL_ (some 10) rfl rfl Tryd.func18 (by kernel_rfl) rfl #[.int .u64 a0] rfl (by (try simp only [List.map_toArray, List.map_cons, List.map_nil]); first | done | rfl | (simp only [tb_wrap8]; done) | (simp only [tb_wrap8]; rfl) | (simp only [List.length_drop, List.length_take]; rfl)) ?_; (with_reducible refine (culletref01_Degree.calls k a0 t165 _ A4.out).mono ?_); rintro e w' ⟨rfl, ⟨nd, rfl⟩⟩; refine ⟨_, rfl, ?_⟩))
 go_loopg [0, 6] k (fun kq v0 v6 w' => ∃ (x0_1 : Int) (x6_1 : Int), v0 = .int .u64 x0_1 ∧ v6 = .int .i64 x6_1 ∧ Aside0 (culletref01_rest.l0 kq x0_1 a1 t164 x6_1 = some r) ∧ Aside0 (kq ≤ k) ∧ Drawn0 w w')
 case atStart => exact ⟨(a0), (t165), (by first | rfl | (simp; done) | (simp [*]; done)), (by first | rfl | (simp; done) | (simp [*]; done)), H', ⟨Nat.le_refl _⟩, by repeat (first | exact Drawn0.refl _ | apply Drawn0.step)⟩
 case round =>
  clear H'
  try clear c1
  try clear p2
  obtain ⟨x0_1, x6_1, rfl, rfl, HA, HK1, ⟨m1, rfl⟩⟩ := hrel
  cases gk with
  | zero => exact absurd HA.out (by simp [culletref01_rest.l0])
  | succ k1 =>
   have H := HA.out
   clear HA
   simp only [culletref01_rest.l0] at H
   by_cases c5 : x6_1 ≥ t164
   ·rw [if_pos c5] at H
    have c5b0 : decide (t164 ≤ x6_1) = true := decide_eq_true c5
    clear c5
    obtain ⟨ji6, hji6⟩ : ∃ j_ : Int, (IntKind.u64.wrap (x6_1)) = j_ := ⟨_, rfl⟩
    replace H : (if 0 ≤ (ji6) then (if (Go.bits .and .u64 (shr .u64 x0_1 (ji6)) 1) = 1 then (if 0 ≤ (IntKind.u64.wrap (wrap64 (x6_1 - t164))) then (culletref01_rest.l0 k1 (Go.bits .xor .u64 x0_1 (shl .u64 a1 (IntKind.u64.wrap (wrap64 (x6_1 - t164))))) a1 t164 (wrap64 (x6_1 - 1))) else (none)) else (culletref01_rest.l0 k1 x0_1 a1 t164 (wrap64 (x6_1 - 1)))) else (none)) = some r := by first | (rw [hji6] at H; exact H) | (simp only [hji6] at H ⊢; exact H)
    by_cases c7 : 0 ≤ (ji6)
    ·rw [if_pos c7] at H
     have c7b0 := eq_true c7
     have c7b1 : decide (0 ≤ (ji6)) = true := decide_eq_true c7
     clear c7
     obtain ⟨ji8, hji8⟩ : ∃ j_ : Int, (shr .u64 x0_1 (ji6)) = j_ := ⟨_, rfl⟩
     replace H : (if (Go.bits .and .u64 (ji8) 1) = 1 then (if 0 ≤ (IntKind.u64.wrap (wrap64 (x6_1 - t164))) then (culletref01_rest.l0 k1 (Go.bits .xor .u64 x0_1 (shl .u64 a1 (IntKind.u64.wrap (wrap64 (x6_1 - t164))))) a1 t164 (wrap64 (x6_1 - 1))) else (none)) else (culletref01_rest.l0 k1 x0_1 a1 t164 (wrap64 (x6_1 - 1)))) = some r := by first | (rw [hji8] at H; exact H) | (simp only [hji8] at H ⊢; exact H)
     have hji8_ : (x0_1 / 2 ^ min (ji6).toNat 64) = ji8 := hji8
     have hji8z : (ji6) ≤ 64 → (x0_1 / 2 ^ (ji6).toNat) = ji8 := shr_small hji8
     by_cases c9 : (Go.bits .and .u64 (ji8) 1) = 1
     ·rw [if_pos c9] at H
      have c9b0 : ((Go.bits .and .u64 (ji8) 1) == 1) = true := beq_iff_eq.mpr c9
      have c9b1 : ((Go.bits .and .u64 (ji8) 1) != 1) = false := bne_eq_false_iff_eq.mpr c9
      clear c9
      obtain ⟨ji10, hji10⟩ : ∃ j_ : Int, (IntKind.u64.wrap (wrap64 (x6_1 - t164))) = j_ := ⟨_, rfl⟩
      replace H : (if 0 ≤ (ji10) then (culletref01_rest.l0 k1 (Go.bits .xor .u64 x0_1 (shl .u64 a1 (ji10))) a1 t164 (wrap64 (x6_1 - 1))) else (none)) = some r := by first | (rw [hji10] at H; exact H) | (simp only [hji10] at H ⊢; exact H)
      by_cases c11 : 0 ≤ (ji10)
      ·rw [if_pos c11] at H
       have c11b0 := eq_true c11
       have c11b1 : decide (0 ≤ (ji10)) = true := decide_eq_true c11
       clear c11
       obtain ⟨ji12, hji12⟩ : ∃ j_ : Int, (shl .u64 a1 (ji10)) = j_ := ⟨_, rfl⟩
       replace H : (culletref01_rest.l0 k1 (Go.bits .xor .u64 x0_1 (ji12)) a1 t164 (wrap64 (x6_1 - 1))) = some r := by first | (rw [hji12] at H; exact H) | (simp only [hji12] at H ⊢; exact H)
       have hji12_ : (IntKind.u64.wrap (a1 * 2 ^ min (ji10).toNat 64)) = ji12 := hji12
       have hji12z : (ji10) ≤ 64 → (IntKind.u64.wrap (a1 * 2 ^ (ji10).toNat)) = ji12 := shl_small hji12
       have H' := Aside0.mk H
       clear H
       go_wp2
       go_roundg k1
       case measure => have := HK1.out; omega
       case rel => exact ⟨(Go.bits .xor .u64 x0_1 (ji12)), (wrap64 (x6_1 - 1)), (by first | rfl | (simp; done) | (simp only [← hji12] <;> (first | rfl | simp)) | (simp [*]; done)), (by first | rfl | (simp; done) | (simp [*]; done)), H', ⟨by have := HK1.out; omega⟩, by repeat (first | exact Drawn0.refl _ | apply Drawn0.step)⟩
      ·rw [if_neg c11] at H
       exact absurd H (by simp)
     ·rw [if_neg c9] at H
      have c9b0 : ((Go.bits .and .u64 (ji8) 1) == 1) = false := beq_eq_false_iff_ne.mpr c9
      have c9b1 : ((Go.bits .and .u64 (ji8) 1) != 1) = true := bne_iff_ne.mpr c9
      have H' := Aside0.mk H
      clear H
      go_wp2
      go_roundg k1
      case measure => have := HK1.out; omega
      case rel => exact ⟨(x0_1), (wrap64 (x6_1 - 1)), (by first | rfl | (simp; done) | (simp [*]; done)), (by first | rfl | (simp; done) | (simp [*]; done)), H', ⟨by have := HK1.out; omega⟩, by repeat (first | exact Drawn0.refl _ | apply Drawn0.step)⟩
    ·rw [if_neg c7] at H
     exact absurd H (by simp)
   ·rw [if_neg c5] at H
    have c5b0 : decide (t164 ≤ x6_1) = false := decide_eq_false c5
    clear c5
    obtain rfl := Option.some.inj H
    go_wp2
    go_ret
    exact ⟨by first | rfl | (simp; done) | (simp [*]; done), by repeat (first | exact Drawn0.refl _ | apply Drawn0.step)⟩

end Go.Proofs.YthldahaimcdejaaDoor.A
