import Derived.Test.YthldahaimcdejaaDoorAx0
import Derived.Test.YthldahaimcdejaaDoorAx5
import Derived.Test.YthldahaimcdejaaDoorAx6
import Derived.Test.YthldahaimcdejaaDoorAx8
-- Printed for this claim by mp.py, a program of its prover, through the kit's print. Lean checks it.
namespace Go.Proofs.YthldahaimcdejaaDoor.A
open Go.RowKit Go.Proofs.YthldahaimcdejaaDoorW.PrintWords Go.Proofs.YthldahaimcdejaaDoorW.PrintLast Go.Proofs.YthldahaimcdejaaDoorW.PrintMore
attribute [local go_sem] max2_int min2_int max_two min_two max_three min_three max_four min_four   -- for this text's walks alone
set_option linter.unusedVariables false
set_option linter.unusedSimpArgs false

/-! ### culletref01_irreducible: function 51 -/
def culletref01_irreducible.l0 : Nat → Int → Int → Int → Option (Bool)
 | 0, _, _, _ => none
 | k + 1, x0, x3, x4 => (culletref01_Degree.f k x4).bind fun t202 => (if t202 ≤ x3 then ((culletref01_rest.f k x0 x4).bind fun t203 => (if t203 = 0 then (some false) else (culletref01_irreducible.l0 k x0 x3 (IntKind.u64.wrap (x4 + 1))))) else (some true))
def culletref01_irreducible.f (k : Nat) (a0 : Int) : Option (Bool) := (culletref01_Degree.f k a0).bind fun t201 => (culletref01_irreducible.l0 k a0 (wrap64 (Int.tdiv t201 2)) 2)
theorem culletref01_irreducible.mono_l : ∀ k, (∀ y0 y1 y2, LeO (culletref01_irreducible.l0 k y0 y1 y2) (culletref01_irreducible.l0 (k + 1) y0 y1 y2))
 | 0 => fun _ _ _ r h => by simp [culletref01_irreducible.l0] at h
 | k + 1 => by
  have ih0 := culletref01_irreducible.mono_l k
  ·intro y0 y1 y2
   unfold culletref01_irreducible.l0
   repeat' first
   | (with_reducible exact ih0 _ _ _)
   | (with_reducible exact culletref01_Degree.mono _ _)
   | (with_reducible exact culletref01_rest.mono _ _ _)
   | (with_reducible exact LeO.refl _)
   | (with_reducible exact LeO.none _)
   | (with_reducible refine LeO.ite ?_ ?_)
   | (with_reducible refine LeO.bind ?_ (fun _ => ?_))
   | exact ih0 _ _ _
   | exact culletref01_Degree.mono _ _
   | exact culletref01_rest.mono _ _ _
   | exact LeO.none _
   | refine LeO.ite ?_ ?_
   | refine LeO.bind ?_ (fun _ => ?_)
theorem culletref01_irreducible.mono : ∀ a0 k, LeO (culletref01_irreducible.f k a0) (culletref01_irreducible.f (k + 1) a0) := by
 intro a0 k
 have ih0 := culletref01_irreducible.mono_l k
 unfold culletref01_irreducible.f
 repeat' first
   | (with_reducible exact ih0 _ _ _)
   | (with_reducible exact culletref01_Degree.mono _ _)
   | (with_reducible exact culletref01_rest.mono _ _ _)
   | (with_reducible exact LeO.refl _)
   | (with_reducible exact LeO.none _)
   | (with_reducible refine LeO.ite ?_ ?_)
   | (with_reducible refine LeO.bind ?_ (fun _ => ?_))
   | exact ih0 _ _ _
   | exact culletref01_Degree.mono _ _
   | exact culletref01_rest.mono _ _ _
   | exact LeO.none _
   | refine LeO.ite ?_ ?_
   | refine LeO.bind ?_ (fun _ => ?_)
set_option maxHeartbeats 8000000 in
set_option maxRecDepth 100000 in
theorem culletref01_irreducible.calls (k : Nat) (a0 : Int) (r : Bool) (w : World) (h : culletref01_irreducible.f k a0 = some r) :
  Calls Tryd.prog 51 #[.int .u64 a0] w fun e w' => e = .returned (.bool r) ∧ Drawn0 w w' := by
 have H : ((culletref01_Degree.f k a0).bind fun t201 => (culletref01_irreducible.l0 k a0 (wrap64 (Int.tdiv t201 2)) 2)) = some r := h
 clear h
 replace H := Option.bind_eq_some_iff.mp H
 obtain ⟨t201, A20, H⟩ := H
 replace H : (culletref01_irreducible.l0 k a0 (wrap64 (Int.tdiv t201 2)) 2) = some r := H
 have A2 := Aside0.mk A20
 clear A20
 have H' := Aside0.mk H
 clear H
 go_enter Tryd.func51, Tryd.ntmps51
 go_wp2_with (first | ((with_reducible refine gate_callee (f := 18) rfl ?_); refine goesL_ (some 6) rfl rfl Tryd.func18 (by kernel_rfl) rfl #[.int .u64 a0] rfl (by (try simp only [List.map_toArray, List.map_cons, List.map_nil]); first | done | rfl | (simp only [tb_wrap8]; done) | (simp only [tb_wrap8]; rfl) | (simp only [List.length_drop, List.length_take]; rfl)) ?_; (with_reducible refine (culletref01_Degree.calls k a0 t201 _ A2.out).mono ?_); rintro e w' ⟨rfl, ⟨nd, rfl⟩⟩; refine ⟨_, rfl, ?_⟩))
 go_loopg [4] k (fun kq v4 w' => ∃ (x4_1 : Int), v4 = .int .u64 x4_1 ∧ Aside0 (culletref01_irreducible.l0 kq a0 (wrap64 (Int.tdiv t201 2)) x4_1 = some r) ∧ Aside0 (kq ≤ k) ∧ Drawn0 w w')
 case atStart => exact ⟨(2), (by first | rfl | (simp; done) | (simp [*]; done)), H', ⟨Nat.le_refl _⟩, by repeat (first | exact Drawn0.refl _ | apply Drawn0.step)⟩
 case round =>
  clear H'
  try clear c1
  try clear p2
  obtain ⟨x4_1, rfl, HA, HK1, ⟨m1, rfl⟩⟩ := hrel
  cases gk with
  | zero => exact absurd HA.out (by simp [culletref01_irreducible.l0])
  | succ k1 =>
   have H := HA.out
   clear HA
   simp only [culletref01_irreducible.l0] at H
   replace H := Option.bind_eq_some_iff.mp H
   obtain ⟨t202, A30, H⟩ := H
   replace H : (if t202 ≤ (wrap64 (Int.tdiv t201 2)) then ((culletref01_rest.f k1 a0 x4_1).bind fun t203 => (if t203 = 0 then (some false) else (culletref01_irreducible.l0 k1 a0 (wrap64 (Int.tdiv t201 2)) (IntKind.u64.wrap (x4_1 + 1))))) else (some true)) = some r := H
   have A3 := Aside0.mk A30
   clear A30
   by_cases c4 : t202 ≤ (wrap64 (Int.tdiv t201 2))
   ·rw [if_pos c4] at H
    have c4b0 : decide (t202 ≤ (wrap64 (Int.tdiv t201 2))) = true := decide_eq_true c4
    clear c4
    replace H := Option.bind_eq_some_iff.mp H
    obtain ⟨t203, A50, H⟩ := H
    replace H : (if t203 = 0 then (some false) else (culletref01_irreducible.l0 k1 a0 (wrap64 (Int.tdiv t201 2)) (IntKind.u64.wrap (x4_1 + 1)))) = some r := H
    have A5 := Aside0.mk A50
    clear A50
    by_cases c6 : t203 = 0
    ·rw [if_pos c6] at H
     have c6b0 : (t203 == 0) = true := beq_iff_eq.mpr c6
     have c6b1 : (t203 != 0) = false := bne_eq_false_iff_eq.mpr c6
     clear c6
     obtain rfl := Option.some.inj H
     go_wp2_with (first | ((with_reducible refine gate_callee (f := 18) rfl ?_); refine goesL_ (some 9) rfl rfl Tryd.func18 (by kernel_rfl) rfl #[.int .u64 x4_1] rfl (by (try simp only [List.map_toArray, List.map_cons, List.map_nil]); first | done | rfl | (simp only [tb_wrap8]; done) | (simp only [tb_wrap8]; rfl) | (simp only [List.length_drop, List.length_take]; rfl)) ?_; (with_reducible refine (culletref01_Degree.calls k1 x4_1 t202 _ A3.out).mono ?_); rintro e w' ⟨rfl, ⟨nd, rfl⟩⟩; refine ⟨_, rfl, ?_⟩) | ((with_reducible refine gate_callee (f := 60) rfl ?_); refine goesL_ (some 16) rfl rfl Tryd.func60 (by kernel_rfl) rfl #[.int .u64 a0, .int .u64 x4_1] rfl (by (try simp only [List.map_toArray, List.map_cons, List.map_nil]); first | done | rfl | (simp only [tb_wrap8]; done) | (simp only [tb_wrap8]; rfl) | (simp only [List.length_drop, List.length_take]; rfl)) ?_; (with_reducible refine (culletref01_rest.calls k1 a0 x4_1 t203 _ A5.out).mono ?_); rintro e w' ⟨rfl, ⟨nd, rfl⟩⟩; refine ⟨_, rfl, ?_⟩))
     go_ret
     exact ⟨by first | rfl | (simp; done) | (simp [*]; done), by repeat (first | exact Drawn0.refl _ | apply Drawn0.step)⟩
    ·rw [if_neg c6] at H
     have c6b0 : (t203 == 0) = false := beq_eq_false_iff_ne.mpr c6
     have c6b1 : (t203 != 0) = true := bne_iff_ne.mpr c6
     have H' := Aside0.mk H
     clear H
     go_wp2_with (first | ((with_reducible refine gate_callee (f := 18) rfl ?_); refine goesL_ (some 9) rfl rfl Tryd.func18 (by kernel_rfl) rfl #[.int .u64 x4_1] rfl (by (try simp only [List.map_toArray, List.map_cons, List.map_nil]); first | done | rfl | (simp only [tb_wrap8]; done) | (simp only [tb_wrap8]; rfl) | (simp only [List.length_drop, List.length_take]; rfl)) ?_; (with_reducible refine (culletref01_Degree.calls k1 x4_1 t202 _ A3.out).mono ?_); rintro e w' ⟨rfl, ⟨nd, rfl⟩⟩; refine ⟨_, rfl, ?_⟩) | ((with_reducible refine gate_callee (f := 60) rfl ?_); refine goesL_ (some 16) rfl rfl Tryd.func60 (by kernel_rfl) rfl #[.int .u64 a0, .int .u64 x4_1] rfl (by (try simp only [List.map_toArray, List.map_cons, List.map_nil]); first | done | rfl | (simp only [tb_wrap8]; done) | (simp only [tb_wrap8]; rfl) | (simp only [List.length_drop, List.length_take]; rfl)) ?_; (with_reducible refine (culletref01_rest.calls k1 a0 x4_1 t203 _ A5.out).mono ?_); rintro e w' ⟨rfl, ⟨nd, rfl⟩⟩; refine ⟨_, rfl, ?_⟩))
     go_roundg k1
     case measure => have := HK1.out; omega
     case rel => exact ⟨(IntKind.u64.wrap (x4_1 + 1)), (by first | rfl | (simp; done) | (simp [*]; done)), H', ⟨by have := HK1.out; omega⟩, by repeat (first | exact Drawn0.refl _ | apply Drawn0.step)⟩
   ·rw [if_neg c4] at H
    have c4b0 : decide (t202 ≤ (wrap64 (Int.tdiv t201 2))) = false := decide_eq_false c4
    clear c4
    obtain rfl := Option.some.inj H
    go_wp2_with (first | ((with_reducible refine gate_callee (f := 18) rfl ?_); refine goesL_ (some 9) rfl rfl Tryd.func18 (by kernel_rfl) rfl #[.int .u64 x4_1] rfl (by (try simp only [List.map_toArray, List.map_cons, List.map_nil]); first | done | rfl | (simp only [tb_wrap8]; done) | (simp only [tb_wrap8]; rfl) | (simp only [List.length_drop, List.length_take]; rfl)) ?_; (with_reducible refine (culletref01_Degree.calls k1 x4_1 t202 _ A3.out).mono ?_); rintro e w' ⟨rfl, ⟨nd, rfl⟩⟩; refine ⟨_, rfl, ?_⟩))
    go_ret
    exact ⟨by first | rfl | (simp; done) | (simp [*]; done), by repeat (first | exact Drawn0.refl _ | apply Drawn0.step)⟩

/-! ### culletref01_Irreducible: function 35 -/
def culletref01_Irreducible.f (k : Nat) (a0 : Int) : Option (Bool × Int) := (culletref01_modulus.f k a0 32).bind fun t204 => (if t204 = true then ((culletref01_irreducible.f k a0).bind fun t205 => (some (t205, 0))) else (some (false, 11)))
theorem culletref01_Irreducible.mono : ∀ a0 k, LeO (culletref01_Irreducible.f k a0) (culletref01_Irreducible.f (k + 1) a0) := by
 intro a0 k
 unfold culletref01_Irreducible.f
 repeat' first
   | (with_reducible exact culletref01_irreducible.mono _ _)
   | (with_reducible exact culletref01_modulus.mono _ _ _)
   | (with_reducible exact LeO.refl _)
   | (with_reducible exact LeO.none _)
   | (with_reducible refine LeO.ite ?_ ?_)
   | (with_reducible refine LeO.bind ?_ (fun _ => ?_))
   | exact culletref01_irreducible.mono _ _
   | exact culletref01_modulus.mono _ _ _
   | exact LeO.none _
   | refine LeO.ite ?_ ?_
   | refine LeO.bind ?_ (fun _ => ?_)
set_option maxHeartbeats 8000000 in
set_option maxRecDepth 100000 in
theorem culletref01_Irreducible.calls (k : Nat) (a0 : Int) (r1 : Bool) (r2 : Int) (w : World) (h : culletref01_Irreducible.f k a0 = some (r1, r2)) :
  Calls Tryd.prog 35 #[.int .u64 a0] w fun e w' => e = .returned (.tuple #[.bool r1, .int .i64 r2]) ∧ Drawn0 w w' := by
 have H : ((culletref01_modulus.f k a0 32).bind fun t204 => (if t204 = true then ((culletref01_irreducible.f k a0).bind fun t205 => (some (t205, 0))) else (some (false, 11)))) = some (r1, r2) := h
 clear h
 replace H := Option.bind_eq_some_iff.mp H
 obtain ⟨t204, A20, H⟩ := H
 replace H : (if t204 = true then ((culletref01_irreducible.f k a0).bind fun t205 => (some (t205, 0))) else (some (false, 11))) = some (r1, r2) := H
 have A2 := Aside0.mk A20
 clear A20
 by_cases c3 : t204 = true
 ·subst c3
  have H1 : ((culletref01_irreducible.f k a0).bind fun t205 => (some (t205, 0))) = some (r1, r2) := by rw [if_pos rfl] at H; exact H
  clear H
  have H := H1
  clear H1
  replace H := Option.bind_eq_some_iff.mp H
  obtain ⟨t205, A40, H⟩ := H
  replace H : (some (t205, 0)) = some (r1, r2) := H
  have A4 := Aside0.mk A40
  clear A40
  simp only [Option.some.injEq, Prod.mk.injEq] at H
  obtain ⟨rfl, rfl⟩ := H
  go_enter Tryd.func35, Tryd.ntmps35
  go_wp2_with (first | ((with_reducible refine gate_callee (f := 49) rfl ?_); refine goesL_ (some 5) rfl rfl Tryd.func49 (by kernel_rfl) rfl #[.int .u64 a0, .int .i64 32] rfl (by (try simp only [List.map_toArray, List.map_cons, List.map_nil]); first | done | rfl | (simp only [tb_wrap8]; done) | (simp only [tb_wrap8]; rfl) | (simp only [List.length_drop, List.length_take]; rfl)) ?_; (with_reducible refine (culletref01_modulus.calls k a0 32 true _ A2.out).mono ?_); rintro e w' ⟨rfl, ⟨nd, rfl⟩⟩; refine ⟨_, rfl, ?_⟩) | ((with_reducible refine gate_callee (f := 51) rfl ?_); refine goesL_ (some 8) rfl rfl Tryd.func51 (by kernel_rfl) rfl #[.int .u64 a0] rfl (by (try simp only [List.map_toArray, List.map_cons, List.map_nil]); first | done | rfl | (simp only [tb_wrap8]; done) | (simp only [tb_wrap8]; rfl) | (simp only [List.length_drop, List.length_take]; rfl)) ?_; (with_reducible refine (culletref01_irreducible.calls k a0 t205 _ A4.out).mono ?_); rintro e w' ⟨rfl, ⟨nd, rfl⟩⟩; refine ⟨_, rfl, ?_⟩))
  go_ret2
  exact ⟨by first | rfl | (simp; done) | (simp [*]; done), by repeat (first | exact Drawn0.refl _ | apply Drawn0.step)⟩
 ·replace c3 := Bool.eq_false_iff.mpr c3
  subst c3
  have H1 : (some (false, 11)) = some (r1, r2) := by rw [if_neg (show ¬ (false = true) by decide)] at H; exact H
  clear H
  have H := H1
  clear H1
  simp only [Option.some.injEq, Prod.mk.injEq] at H
  obtain ⟨rfl, rfl⟩ := H
  go_enter Tryd.func35, Tryd.ntmps35
  go_wp2_with (first | ((with_reducible refine gate_callee (f := 49) rfl ?_); refine goesL_ (some 5) rfl rfl Tryd.func49 (by kernel_rfl) rfl #[.int .u64 a0, .int .i64 32] rfl (by (try simp only [List.map_toArray, List.map_cons, List.map_nil]); first | done | rfl | (simp only [tb_wrap8]; done) | (simp only [tb_wrap8]; rfl) | (simp only [List.length_drop, List.length_take]; rfl)) ?_; (with_reducible refine (culletref01_modulus.calls k a0 32 false _ A2.out).mono ?_); rintro e w' ⟨rfl, ⟨nd, rfl⟩⟩; refine ⟨_, rfl, ?_⟩))
  go_ret2
  exact ⟨by first | rfl | (simp; done) | (simp [*]; done), by repeat (first | exact Drawn0.refl _ | apply Drawn0.step)⟩

/-! ### culletref01_order: function 52 -/
def culletref01_order.l0 : Nat → Int → Int → Int → Int → Option (Int)
 | 0, _, _, _, _ => none
 | k + 1, x0, x1, x5, x6 => if x6 < 65536 then (if x5 = 1 then (some x6) else ((culletref01_times.f k x0 x5 x1).bind fun t207 => (culletref01_order.l0 k x0 x1 t207 (wrap64 (x6 + 1))))) else (some 0)
def culletref01_order.f (k : Nat) (a0 : Int) (a1 : Int) : Option (Int) := (culletref01_rest.f k a0 a1).bind fun t206 => (culletref01_order.l0 k t206 a1 t206 1)
theorem culletref01_order.mono_l : ∀ k, (∀ y0 y1 y2 y3, LeO (culletref01_order.l0 k y0 y1 y2 y3) (culletref01_order.l0 (k + 1) y0 y1 y2 y3))
 | 0 => fun _ _ _ _ r h => by simp [culletref01_order.l0] at h
 | k + 1 => by
  have ih0 := culletref01_order.mono_l k
  ·intro y0 y1 y2 y3
   unfold culletref01_order.l0
   repeat' first
   | (with_reducible exact ih0 _ _ _ _)
   | (with_reducible exact culletref01_rest.mono _ _ _)
   | (with_reducible exact culletref01_times.mono _ _ _ _)
   | (with_reducible exact LeO.refl _)
   | (with_reducible exact LeO.none _)
   | (with_reducible refine LeO.ite ?_ ?_)
   | (with_reducible refine LeO.bind ?_ (fun _ => ?_))
   | exact ih0 _ _ _ _
   | exact culletref01_rest.mono _ _ _
   | exact culletref01_times.mono _ _ _ _
   | exact LeO.none _
   | refine LeO.ite ?_ ?_
   | refine LeO.bind ?_ (fun _ => ?_)
theorem culletref01_order.mono : ∀ a0 a1 k, LeO (culletref01_order.f k a0 a1) (culletref01_order.f (k + 1) a0 a1) := by
 intro a0 a1 k
 have ih0 := culletref01_order.mono_l k
 unfold culletref01_order.f
 repeat' first
   | (with_reducible exact ih0 _ _ _ _)
   | (with_reducible exact culletref01_rest.mono _ _ _)
   | (with_reducible exact culletref01_times.mono _ _ _ _)
   | (with_reducible exact LeO.refl _)
   | (with_reducible exact LeO.none _)
   | (with_reducible refine LeO.ite ?_ ?_)
   | (with_reducible refine LeO.bind ?_ (fun _ => ?_))
   | exact ih0 _ _ _ _
   | exact culletref01_rest.mono _ _ _
   | exact culletref01_times.mono _ _ _ _
   | exact LeO.none _
   | refine LeO.ite ?_ ?_
   | refine LeO.bind ?_ (fun _ => ?_)
set_option maxHeartbeats 8000000 in
set_option maxRecDepth 100000 in
theorem culletref01_order.calls (k : Nat) (a0 : Int) (a1 : Int) (r : Int) (w : World) (h : culletref01_order.f k a0 a1 = some r) :
  Calls Tryd.prog 52 #[.int .u64 a0, .int .u64 a1] w fun e w' => e = .returned (.int .i64 r) ∧ Drawn0 w w' := by
 have H : ((culletref01_rest.f k a0 a1).bind fun t206 => (culletref01_order.l0 k t206 a1 t206 1)) = some r := h
 clear h
 replace H := Option.bind_eq_some_iff.mp H
 obtain ⟨t206, A30, H⟩ := H
 replace H : (culletref01_order.l0 k t206 a1 t206 1) = some r := H
 have A3 := Aside0.mk A30
 clear A30
 have H' := Aside0.mk H
 clear H
 go_enter Tryd.func52, Tryd.ntmps52
 go_wp2_with (first | ((with_reducible refine gate_callee (f := 60) rfl ?_); refine goesL_ (some 9) rfl rfl Tryd.func60 (by kernel_rfl) rfl #[.int .u64 a0, .int .u64 a1] rfl (by (try simp only [List.map_toArray, List.map_cons, List.map_nil]); first | done | rfl | (simp only [tb_wrap8]; done) | (simp only [tb_wrap8]; rfl) | (simp only [List.length_drop, List.length_take]; rfl)) ?_; (with_reducible refine (culletref01_rest.calls k a0 a1 t206 _ A3.out).mono ?_); rintro e w' ⟨rfl, ⟨nd, rfl⟩⟩; refine ⟨_, rfl, ?_⟩))
 go_loopg [5, 6] k (fun kq v5 v6 w' => ∃ (x5_1 : Int) (x6_1 : Int), v5 = .int .u64 x5_1 ∧ v6 = .int .i64 x6_1 ∧ Aside0 (culletref01_order.l0 kq t206 a1 x5_1 x6_1 = some r) ∧ Aside0 (kq ≤ k) ∧ Drawn0 w w')
 case atStart => exact ⟨(t206), (1), (by first | rfl | (simp; done) | (simp [*]; done)), (by first | rfl | (simp; done) | (simp [*]; done)), H', ⟨Nat.le_refl _⟩, by repeat (first | exact Drawn0.refl _ | apply Drawn0.step)⟩
 case round =>
  clear H'
  try clear p2
  obtain ⟨x5_1, x6_1, rfl, rfl, HA, HK1, ⟨m1, rfl⟩⟩ := hrel
  cases gk with
  | zero => exact absurd HA.out (by simp [culletref01_order.l0])
  | succ k1 =>
   have H := HA.out
   clear HA
   simp only [culletref01_order.l0] at H
   by_cases c4 : x6_1 < 65536
   ·rw [if_pos c4] at H
    have c4b0 : decide (x6_1 < 65536) = true := decide_eq_true c4
    clear c4
    by_cases c5 : x5_1 = 1
    ·rw [if_pos c5] at H
     have c5b0 : (x5_1 == 1) = true := beq_iff_eq.mpr c5
     have c5b1 : (x5_1 != 1) = false := bne_eq_false_iff_eq.mpr c5
     clear c5
     obtain rfl := Option.some.inj H
     go_wp2
     go_ret
     exact ⟨by first | rfl | (simp; done) | (simp [*]; done), by repeat (first | exact Drawn0.refl _ | apply Drawn0.step)⟩
    ·rw [if_neg c5] at H
     have c5b0 : (x5_1 == 1) = false := beq_eq_false_iff_ne.mpr c5
     have c5b1 : (x5_1 != 1) = true := bne_iff_ne.mpr c5
     replace H := Option.bind_eq_some_iff.mp H
     obtain ⟨t207, A60, H⟩ := H
     replace H : (culletref01_order.l0 k1 t206 a1 t207 (wrap64 (x6_1 + 1))) = some r := H
     have A6 := Aside0.mk A60
     clear A60
     have H' := Aside0.mk H
     clear H
     go_wp2_with (first | ((with_reducible refine gate_callee (f := 50) rfl ?_); refine goesL_ (some 21) rfl rfl Tryd.func50 (by kernel_rfl) rfl #[.int .u64 t206, .int .u64 x5_1, .int .u64 a1] rfl (by (try simp only [List.map_toArray, List.map_cons, List.map_nil]); first | done | rfl | (simp only [tb_wrap8]; done) | (simp only [tb_wrap8]; rfl) | (simp only [List.length_drop, List.length_take]; rfl)) ?_; (with_reducible refine (culletref01_times.calls k1 t206 x5_1 a1 t207 _ A6.out).mono ?_); rintro e w' ⟨rfl, ⟨nd, rfl⟩⟩; refine ⟨_, rfl, ?_⟩))
     go_roundg k1
     case measure => have := HK1.out; omega
     case rel => exact ⟨(t207), (wrap64 (x6_1 + 1)), (by first | rfl | (simp; done) | (simp [*]; done)), (by first | rfl | (simp; done) | (simp [*]; done)), H', ⟨by have := HK1.out; omega⟩, by repeat (first | exact Drawn0.refl _ | apply Drawn0.step)⟩
   ·rw [if_neg c4] at H
    have c4b0 : decide (x6_1 < 65536) = false := decide_eq_false c4
    clear c4
    obtain rfl := Option.some.inj H
    go_wp2
    go_ret
    exact ⟨by first | rfl | (simp; done) | (simp [*]; done), by repeat (first | exact Drawn0.refl _ | apply Drawn0.step)⟩

/-! ### culletref01_Order: function 37 -/
def culletref01_Order.f (k : Nat) (a0 : Int) (a1 : Int) : Option (Int × Int) := (culletref01_modulus.f k a1 16).bind fun t208 => (if t208 = true then ((culletref01_Gcd.f k a0 a1).bind fun t209 => (if t209 = 1 then ((culletref01_order.f k a0 a1).bind fun t210 => (some (t210, 0))) else (some (0, 12)))) else (some (0, 11)))
theorem culletref01_Order.mono : ∀ a0 a1 k, LeO (culletref01_Order.f k a0 a1) (culletref01_Order.f (k + 1) a0 a1) := by
 intro a0 a1 k
 unfold culletref01_Order.f
 repeat' first
   | (with_reducible exact culletref01_Gcd.mono _ _ _)
   | (with_reducible exact culletref01_modulus.mono _ _ _)
   | (with_reducible exact culletref01_order.mono _ _ _)
   | (with_reducible exact LeO.refl _)
   | (with_reducible exact LeO.none _)
   | (with_reducible refine LeO.ite ?_ ?_)
   | (with_reducible refine LeO.bind ?_ (fun _ => ?_))
   | exact culletref01_Gcd.mono _ _ _
   | exact culletref01_modulus.mono _ _ _
   | exact culletref01_order.mono _ _ _
   | exact LeO.none _
   | refine LeO.ite ?_ ?_
   | refine LeO.bind ?_ (fun _ => ?_)
set_option maxHeartbeats 8000000 in
set_option maxRecDepth 100000 in
theorem culletref01_Order.calls (k : Nat) (a0 : Int) (a1 : Int) (r1 : Int) (r2 : Int) (w : World) (h : culletref01_Order.f k a0 a1 = some (r1, r2)) :
  Calls Tryd.prog 37 #[.int .u64 a0, .int .u64 a1] w fun e w' => e = .returned (.tuple #[.int .i64 r1, .int .i64 r2]) ∧ Drawn0 w w' := by
 have H : ((culletref01_modulus.f k a1 16).bind fun t208 => (if t208 = true then ((culletref01_Gcd.f k a0 a1).bind fun t209 => (if t209 = 1 then ((culletref01_order.f k a0 a1).bind fun t210 => (some (t210, 0))) else (some (0, 12)))) else (some (0, 11)))) = some (r1, r2) := h
 clear h
 replace H := Option.bind_eq_some_iff.mp H
 obtain ⟨t208, A30, H⟩ := H
 replace H : (if t208 = true then ((culletref01_Gcd.f k a0 a1).bind fun t209 => (if t209 = 1 then ((culletref01_order.f k a0 a1).bind fun t210 => (some (t210, 0))) else (some (0, 12)))) else (some (0, 11))) = some (r1, r2) := H
 have A3 := Aside0.mk A30
 clear A30
 by_cases c4 : t208 = true
 ·subst c4
  have H1 : ((culletref01_Gcd.f k a0 a1).bind fun t209 => (if t209 = 1 then ((culletref01_order.f k a0 a1).bind fun t210 => (some (t210, 0))) else (some (0, 12)))) = some (r1, r2) := by rw [if_pos rfl] at H; exact H
  clear H
  have H := H1
  clear H1
  replace H := Option.bind_eq_some_iff.mp H
  obtain ⟨t209, A50, H⟩ := H
  replace H : (if t209 = 1 then ((culletref01_order.f k a0 a1).bind fun t210 => (some (t210, 0))) else (some (0, 12))) = some (r1, r2) := H
  have A5 := Aside0.mk A50
  clear A50
  by_cases c6 : t209 = 1
  ·rw [if_pos c6] at H
   have c6b0 : (t209 == 1) = true := beq_iff_eq.mpr c6
   have c6b1 : (t209 != 1) = false := bne_eq_false_iff_eq.mpr c6
   clear c6
   replace H := Option.bind_eq_some_iff.mp H
   obtain ⟨t210, A70, H⟩ := H
   replace H : (some (t210, 0)) = some (r1, r2) := H
   have A7 := Aside0.mk A70
   clear A70
   simp only [Option.some.injEq, Prod.mk.injEq] at H
   obtain ⟨rfl, rfl⟩ := H
   go_enter Tryd.func37, Tryd.ntmps37
   go_wp2_with (first | ((with_reducible refine gate_callee (f := 49) rfl ?_); refine goesL_ (some 7) rfl rfl Tryd.func49 (by kernel_rfl) rfl #[.int .u64 a1, .int .i64 16] rfl (by (try simp only [List.map_toArray, List.map_cons, List.map_nil]); first | done | rfl | (simp only [tb_wrap8]; done) | (simp only [tb_wrap8]; rfl) | (simp only [List.length_drop, List.length_take]; rfl)) ?_; (with_reducible refine (culletref01_modulus.calls k a1 16 true _ A3.out).mono ?_); rintro e w' ⟨rfl, ⟨nd, rfl⟩⟩; refine ⟨_, rfl, ?_⟩) | ((with_reducible refine gate_callee (f := 25) rfl ?_); refine goesL_ (some 11) rfl rfl Tryd.func25 (by kernel_rfl) rfl #[.int .u64 a0, .int .u64 a1] rfl (by (try simp only [List.map_toArray, List.map_cons, List.map_nil]); first | done | rfl | (simp only [tb_wrap8]; done) | (simp only [tb_wrap8]; rfl) | (simp only [List.length_drop, List.length_take]; rfl)) ?_; (with_reducible refine (culletref01_Gcd.calls k a0 a1 t209 _ A5.out).mono ?_); rintro e w' ⟨rfl, ⟨nd, rfl⟩⟩; refine ⟨_, rfl, ?_⟩) | ((with_reducible refine gate_callee (f := 52) rfl ?_); refine goesL_ (some 15) rfl rfl Tryd.func52 (by kernel_rfl) rfl #[.int .u64 a0, .int .u64 a1] rfl (by (try simp only [List.map_toArray, List.map_cons, List.map_nil]); first | done | rfl | (simp only [tb_wrap8]; done) | (simp only [tb_wrap8]; rfl) | (simp only [List.length_drop, List.length_take]; rfl)) ?_; (with_reducible refine (culletref01_order.calls k a0 a1 t210 _ A7.out).mono ?_); rintro e w' ⟨rfl, ⟨nd, rfl⟩⟩; refine ⟨_, rfl, ?_⟩))
   go_ret2
   exact ⟨by first | rfl | (simp; done) | (simp [*]; done), by repeat (first | exact Drawn0.refl _ | apply Drawn0.step)⟩
  ·rw [if_neg c6] at H
   have c6b0 : (t209 == 1) = false := beq_eq_false_iff_ne.mpr c6
   have c6b1 : (t209 != 1) = true := bne_iff_ne.mpr c6
   simp only [Option.some.injEq, Prod.mk.injEq] at H
   obtain ⟨rfl, rfl⟩ := H
   go_enter Tryd.func37, Tryd.ntmps37
   go_wp2_with (first | ((with_reducible refine gate_callee (f := 49) rfl ?_); refine goesL_ (some 7) rfl rfl Tryd.func49 (by kernel_rfl) rfl #[.int .u64 a1, .int .i64 16] rfl (by (try simp only [List.map_toArray, List.map_cons, List.map_nil]); first | done | rfl | (simp only [tb_wrap8]; done) | (simp only [tb_wrap8]; rfl) | (simp only [List.length_drop, List.length_take]; rfl)) ?_; (with_reducible refine (culletref01_modulus.calls k a1 16 true _ A3.out).mono ?_); rintro e w' ⟨rfl, ⟨nd, rfl⟩⟩; refine ⟨_, rfl, ?_⟩) | ((with_reducible refine gate_callee (f := 25) rfl ?_); refine goesL_ (some 11) rfl rfl Tryd.func25 (by kernel_rfl) rfl #[.int .u64 a0, .int .u64 a1] rfl (by (try simp only [List.map_toArray, List.map_cons, List.map_nil]); first | done | rfl | (simp only [tb_wrap8]; done) | (simp only [tb_wrap8]; rfl) | (simp only [List.length_drop, List.length_take]; rfl)) ?_; (with_reducible refine (culletref01_Gcd.calls k a0 a1 t209 _ A5.out).mono ?_); rintro e w' ⟨rfl, ⟨nd, rfl⟩⟩; refine ⟨_, rfl, ?_⟩))
   go_ret2
   exact ⟨by first | rfl | (simp; done) | (simp [*]; done), by repeat (first | exact Drawn0.refl _ | apply Drawn0.step)⟩
 ·replace c4 := Bool.eq_false_iff.mpr c4
  subst c4
  have H1 : (some (0, 11)) = some (r1, r2) := by rw [if_neg (show ¬ (false = true) by decide)] at H; exact H
  clear H
  have H := H1
  clear H1
  simp only [Option.some.injEq, Prod.mk.injEq] at H
  obtain ⟨rfl, rfl⟩ := H
  go_enter Tryd.func37, Tryd.ntmps37
  go_wp2_with (first | ((with_reducible refine gate_callee (f := 49) rfl ?_); refine goesL_ (some 7) rfl rfl Tryd.func49 (by kernel_rfl) rfl #[.int .u64 a1, .int .i64 16] rfl (by (try simp only [List.map_toArray, List.map_cons, List.map_nil]); first | done | rfl | (simp only [tb_wrap8]; done) | (simp only [tb_wrap8]; rfl) | (simp only [List.length_drop, List.length_take]; rfl)) ?_; (with_reducible refine (culletref01_modulus.calls k a1 16 false _ A3.out).mono ?_); rintro e w' ⟨rfl, ⟨nd, rfl⟩⟩; refine ⟨_, rfl, ?_⟩))
  go_ret2
  exact ⟨by first | rfl | (simp; done) | (simp [*]; done), by repeat (first | exact Drawn0.refl _ | apply Drawn0.step)⟩

/-! ### culletref01_Primitive: function 39 -/
def culletref01_Primitive.f (k : Nat) (a0 : Int) : Option (Bool × Int) := (culletref01_modulus.f k a0 16).bind fun t211 => (if t211 = true then ((culletref01_irreducible.f k a0).bind fun t212 => (if t212 = true then ((culletref01_order.f k 2 a0).bind fun t213 => ((culletref01_Degree.f k a0).bind fun t214 => (if 0 ≤ (IntKind.u64.wrap (t214)) then (some ((t213 == (wrap64 ((shl .i64 1 (IntKind.u64.wrap (t214))) - 1))), 0)) else (none)))) else (some (false, 0)))) else (some (false, 11)))
theorem culletref01_Primitive.mono : ∀ a0 k, LeO (culletref01_Primitive.f k a0) (culletref01_Primitive.f (k + 1) a0) := by
 intro a0 k
 unfold culletref01_Primitive.f
 repeat' first
   | (with_reducible exact culletref01_Degree.mono _ _)
   | (with_reducible exact culletref01_irreducible.mono _ _)
   | (with_reducible exact culletref01_modulus.mono _ _ _)
   | (with_reducible exact culletref01_order.mono _ _ _)
   | (with_reducible exact LeO.refl _)
   | (with_reducible exact LeO.none _)
   | (with_reducible refine LeO.ite ?_ ?_)
   | (with_reducible refine LeO.bind ?_ (fun _ => ?_))
   | exact culletref01_Degree.mono _ _
   | exact culletref01_irreducible.mono _ _
   | exact culletref01_modulus.mono _ _ _
   | exact culletref01_order.mono _ _ _
   | exact LeO.none _
   | refine LeO.ite ?_ ?_
   | refine LeO.bind ?_ (fun _ => ?_)
set_option maxHeartbeats 8000000 in
set_option maxRecDepth 100000 in
theorem culletref01_Primitive.calls (k : Nat) (a0 : Int) (r1 : Bool) (r2 : Int) (w : World) (h : culletref01_Primitive.f k a0 = some (r1, r2)) :
  Calls Tryd.prog 39 #[.int .u64 a0] w fun e w' => e = .returned (.tuple #[.bool r1, .int .i64 r2]) ∧ Drawn0 w w' := by
 have H : ((culletref01_modulus.f k a0 16).bind fun t211 => (if t211 = true then ((culletref01_irreducible.f k a0).bind fun t212 => (if t212 = true then ((culletref01_order.f k 2 a0).bind fun t213 => ((culletref01_Degree.f k a0).bind fun t214 => (if 0 ≤ (IntKind.u64.wrap (t214)) then (some ((t213 == (wrap64 ((shl .i64 1 (IntKind.u64.wrap (t214))) - 1))), 0)) else (none)))) else (some (false, 0)))) else (some (false, 11)))) = some (r1, r2) := h
 clear h
 replace H := Option.bind_eq_some_iff.mp H
 obtain ⟨t211, A20, H⟩ := H
 replace H : (if t211 = true then ((culletref01_irreducible.f k a0).bind fun t212 => (if t212 = true then ((culletref01_order.f k 2 a0).bind fun t213 => ((culletref01_Degree.f k a0).bind fun t214 => (if 0 ≤ (IntKind.u64.wrap (t214)) then (some ((t213 == (wrap64 ((shl .i64 1 (IntKind.u64.wrap (t214))) - 1))), 0)) else (none)))) else (some (false, 0)))) else (some (false, 11))) = some (r1, r2) := H
 have A2 := Aside0.mk A20
 clear A20
 by_cases c3 : t211 = true
 ·subst c3
  have H1 : ((culletref01_irreducible.f k a0).bind fun t212 => (if t212 = true then ((culletref01_order.f k 2 a0).bind fun t213 => ((culletref01_Degree.f k a0).bind fun t214 => (if 0 ≤ (IntKind.u64.wrap (t214)) then (some ((t213 == (wrap64 ((shl .i64 1 (IntKind.u64.wrap (t214))) - 1))), 0)) else (none)))) else (some (false, 0)))) = some (r1, r2) := by rw [if_pos rfl] at H; exact H
  clear H
  have H := H1
  clear H1
  replace H := Option.bind_eq_some_iff.mp H
  obtain ⟨t212, A40, H⟩ := H
  replace H : (if t212 = true then ((culletref01_order.f k 2 a0).bind fun t213 => ((culletref01_Degree.f k a0).bind fun t214 => (if 0 ≤ (IntKind.u64.wrap (t214)) then (some ((t213 == (wrap64 ((shl .i64 1 (IntKind.u64.wrap (t214))) - 1))), 0)) else (none)))) else (some (false, 0))) = some (r1, r2) := H
  have A4 := Aside0.mk A40
  clear A40
  by_cases c5 : t212 = true
  ·subst c5
   have H1 : ((culletref01_order.f k 2 a0).bind fun t213 => ((culletref01_Degree.f k a0).bind fun t214 => (if 0 ≤ (IntKind.u64.wrap (t214)) then (some ((t213 == (wrap64 ((shl .i64 1 (IntKind.u64.wrap (t214))) - 1))), 0)) else (none)))) = some (r1, r2) := by rw [if_pos rfl] at H; exact H
   clear H
   have H := H1
   clear H1
   replace H := Option.bind_eq_some_iff.mp H
   obtain ⟨t213, A60, H⟩ := H
   replace H : ((culletref01_Degree.f k a0).bind fun t214 => (if 0 ≤ (IntKind.u64.wrap (t214)) then (some ((t213 == (wrap64 ((shl .i64 1 (IntKind.u64.wrap (t214))) - 1))), 0)) else (none))) = some (r1, r2) := H
   have A6 := Aside0.mk A60
   clear A60
   replace H := Option.bind_eq_some_iff.mp H
   obtain ⟨t214, A70, H⟩ := H
   replace H : (if 0 ≤ (IntKind.u64.wrap (t214)) then (some ((t213 == (wrap64 ((shl .i64 1 (IntKind.u64.wrap (t214))) - 1))), 0)) else (none)) = some (r1, r2) := H
   have A7 := Aside0.mk A70
   clear A70
   obtain ⟨ji8, hji8⟩ : ∃ j_ : Int, (IntKind.u64.wrap (t214)) = j_ := ⟨_, rfl⟩
   replace H : (if 0 ≤ (ji8) then (some ((t213 == (wrap64 ((shl .i64 1 (ji8)) - 1))), 0)) else (none)) = some (r1, r2) := by first | (rw [hji8] at H; exact H) | (simp only [hji8] at H ⊢; exact H)
   (try rw [hji8] at A2)
   (try rw [hji8] at A4)
   (try rw [hji8] at A6)
   (try rw [hji8] at A7)
   by_cases c9 : 0 ≤ (ji8)
   ·rw [if_pos c9] at H
    have c9b0 := eq_true c9
    have c9b1 : decide (0 ≤ (ji8)) = true := decide_eq_true c9
    clear c9
    obtain ⟨ji10, hji10⟩ : ∃ j_ : Int, (shl .i64 1 (ji8)) = j_ := ⟨_, rfl⟩
    replace H : (some ((t213 == (wrap64 ((ji10) - 1))), 0)) = some (r1, r2) := by first | (rw [hji10] at H; exact H) | (simp only [hji10] at H ⊢; exact H)
    (try rw [hji10] at A2)
    (try rw [hji10] at A4)
    (try rw [hji10] at A6)
    (try rw [hji10] at A7)
    have hji10_ : (IntKind.i64.wrap (1 * 2 ^ min (ji8).toNat 64)) = ji10 := hji10
    have hji10z : (ji8) ≤ 64 → (IntKind.i64.wrap (1 * 2 ^ (ji8).toNat)) = ji10 := shl_small hji10
    have hji10u : (IntKind.i64.wrap (2 ^ min (ji8).toNat 64)) = ji10 := by have h_ := hji10_; rw [Int.one_mul] at h_; exact h_
    have hji10v : (ji8) ≤ 64 → (IntKind.i64.wrap (2 ^ (ji8).toNat)) = ji10 := fun hle_ => by have h_ := hji10z hle_; rw [Int.one_mul] at h_; exact h_
    have hji10y : (wrap64 (1 * 2 ^ min (ji8).toNat 64)) = ji10 := (i64_w _).symm.trans hji10_
    have hji10x : (ji8) ≤ 64 → (wrap64 (1 * 2 ^ (ji8).toNat)) = ji10 := fun h_ => (i64_w _).symm.trans (hji10z h_)
    simp only [Option.some.injEq, Prod.mk.injEq] at H
    obtain ⟨rfl, rfl⟩ := H
    go_enter Tryd.func39, Tryd.ntmps39
    go_wp2_with (first | ((with_reducible refine gate_callee (f := 49) rfl ?_); refine goesL_ (some 5) rfl rfl Tryd.func49 (by kernel_rfl) rfl #[.int .u64 a0, .int .i64 16] rfl (by (try simp only [List.map_toArray, List.map_cons, List.map_nil]); first | done | rfl | (simp only [tb_wrap8]; done) | (simp only [tb_wrap8]; rfl) | (simp only [List.length_drop, List.length_take]; rfl)) ?_; (with_reducible refine (culletref01_modulus.calls k a0 16 true _ A2.out).mono ?_); rintro e w' ⟨rfl, ⟨nd, rfl⟩⟩; refine ⟨_, rfl, ?_⟩) | ((with_reducible refine gate_callee (f := 51) rfl ?_); refine goesL_ (some 8) rfl rfl Tryd.func51 (by kernel_rfl) rfl #[.int .u64 a0] rfl (by (try simp only [List.map_toArray, List.map_cons, List.map_nil]); first | done | rfl | (simp only [tb_wrap8]; done) | (simp only [tb_wrap8]; rfl) | (simp only [List.length_drop, List.length_take]; rfl)) ?_; (with_reducible refine (culletref01_irreducible.calls k a0 true _ A4.out).mono ?_); rintro e w' ⟨rfl, ⟨nd, rfl⟩⟩; refine ⟨_, rfl, ?_⟩) | ((with_reducible refine gate_callee (f := 52) rfl ?_); refine goesL_ (some 11) rfl rfl Tryd.func52 (by kernel_rfl) rfl #[.int .u64 2, .int .u64 a0] rfl (by (try simp only [List.map_toArray, List.map_cons, List.map_nil]); first | done | rfl | (simp only [tb_wrap8]; done) | (simp only [tb_wrap8]; rfl) | (simp only [List.length_drop, List.length_take]; rfl)) ?_; (with_reducible refine (culletref01_order.calls k 2 a0 t213 _ A6.out).mono ?_); rintro e w' ⟨rfl, ⟨nd, rfl⟩⟩; refine ⟨_, rfl, ?_⟩) | ((with_reducible refine gate_callee (f := 18) rfl ?_); refine goesL_ (some 13) rfl rfl Tryd.func18 (by kernel_rfl) rfl #[.int .u64 a0] rfl (by (try simp only [List.map_toArray, List.map_cons, List.map_nil]); first | done | rfl | (simp only [tb_wrap8]; done) | (simp only [tb_wrap8]; rfl) | (simp only [List.length_drop, List.length_take]; rfl)) ?_; (with_reducible refine (culletref01_Degree.calls k a0 t214 _ A7.out).mono ?_); rintro e w' ⟨rfl, ⟨nd, rfl⟩⟩; refine ⟨_, rfl, ?_⟩))
    go_ret2
    exact ⟨by first | rfl | (simp; done) | (simp only [← hji8, ← hji10] <;> (first | rfl | simp)) | (simp [*]; done), by repeat (first | exact Drawn0.refl _ | apply Drawn0.step)⟩
   ·rw [if_neg c9] at H
    exact absurd H (by simp)
  ·replace c5 := Bool.eq_false_iff.mpr c5
   subst c5
   have H1 : (some (false, 0)) = some (r1, r2) := by rw [if_neg (show ¬ (false = true) by decide)] at H; exact H
   clear H
   have H := H1
   clear H1
   simp only [Option.some.injEq, Prod.mk.injEq] at H
   obtain ⟨rfl, rfl⟩ := H
   go_enter Tryd.func39, Tryd.ntmps39
   go_wp2_with (first | ((with_reducible refine gate_callee (f := 49) rfl ?_); refine goesL_ (some 5) rfl rfl Tryd.func49 (by kernel_rfl) rfl #[.int .u64 a0, .int .i64 16] rfl (by (try simp only [List.map_toArray, List.map_cons, List.map_nil]); first | done | rfl | (simp only [tb_wrap8]; done) | (simp only [tb_wrap8]; rfl) | (simp only [List.length_drop, List.length_take]; rfl)) ?_; (with_reducible refine (culletref01_modulus.calls k a0 16 true _ A2.out).mono ?_); rintro e w' ⟨rfl, ⟨nd, rfl⟩⟩; refine ⟨_, rfl, ?_⟩) | ((with_reducible refine gate_callee (f := 51) rfl ?_); refine goesL_ (some 8) rfl rfl Tryd.func51 (by kernel_rfl) rfl #[.int .u64 a0] rfl (by (try simp only [List.map_toArray, List.map_cons, List.map_nil]); first | done | rfl | (simp only [tb_wrap8]; done) | (simp only [tb_wrap8]; rfl) | (simp only [List.length_drop, List.length_take]; rfl)) ?_; (with_reducible refine (culletref01_irreducible.calls k a0 false _ A4.out).mono ?_); rintro e w' ⟨rfl, ⟨nd, rfl⟩⟩; refine ⟨_, rfl, ?_⟩))
   go_ret2
   exact ⟨by first | rfl | (simp; done) | (simp [*]; done), by repeat (first | exact Drawn0.refl _ | apply Drawn0.step)⟩
 ·replace c3 := Bool.eq_false_iff.mpr c3
  subst c3
  have H1 : (some (false, 11)) = some (r1, r2) := by rw [if_neg (show ¬ (false = true) by decide)] at H; exact H
  clear H
  have H := H1
  clear H1
  simp only [Option.some.injEq, Prod.mk.injEq] at H
  obtain ⟨rfl, rfl⟩ := H
  go_enter Tryd.func39, Tryd.ntmps39
  go_wp2_with (first | ((with_reducible refine gate_callee (f := 49) rfl ?_); refine goesL_ (some 5) rfl rfl Tryd.func49 (by kernel_rfl) rfl #[.int .u64 a0, .int .i64 16] rfl (by (try simp only [List.map_toArray, List.map_cons, List.map_nil]); first | done | rfl | (simp only [tb_wrap8]; done) | (simp only [tb_wrap8]; rfl) | (simp only [List.length_drop, List.length_take]; rfl)) ?_; (with_reducible refine (culletref01_modulus.calls k a0 16 false _ A2.out).mono ?_); rintro e w' ⟨rfl, ⟨nd, rfl⟩⟩; refine ⟨_, rfl, ?_⟩))
  go_ret2
  exact ⟨by first | rfl | (simp; done) | (simp [*]; done), by repeat (first | exact Drawn0.refl _ | apply Drawn0.step)⟩

end Go.Proofs.YthldahaimcdejaaDoor.A
