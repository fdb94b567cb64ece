import Derived.Test.YthldahaimcdejaaDoorProg
import Derived.Below
import Derived.Deep.Draws
import Derived.Deep.AppendLies
import Derived.Maps.AppendAt
import Derived.OwnWalk
import Derived.Laws.BytesArg
import Derived.Laws.MakeOwn
import Derived.Laws.OwnMore
import Derived.Deep.OwnRows
import Derived.Tactics
import Derived.Lib.ConvBytes
import Derived.Laws.Slices
import Derived.WalkKit
import Derived.KernelRfl
import Derived.RowKit3
import Derived.Deep.LoopGhost
import Derived.Deep.QuietTactic
import Derived.BigQuiet
import Derived.WideLaws
import Derived.Deep.DeepCutAuto
import Derived.Deep.CutBlock
import Derived.Deep.RegionHeld3
import Derived.Laws.Rows
import Derived.Lib.AppendStr
import Derived.ArgAppend
import Derived.Laws.IdiomCopy
import Derived.OrdersHeld
import Derived.Laws.BitsLemmas
import Derived.RowKit
import Derived.Test.YthldahaimcdejaaDoorShelf
import Derived.Laws.Tables
import Derived.Test.YthldahaimcdejaaDoorMake0
import Derived.Test.YthldahaimcdejaaDoorZ1
section
-- Printed for this claim by mp.py, a program of its prover, through the kit's print. Lean checks it.
namespace Go.Proofs.YthldahaimcdejaaDoor.A
open Go.RowKit Go.Proofs.YthldahaimcdejaaDoorW.PrintWords Go.Proofs.YthldahaimcdejaaDoorW.PrintLast Go.Proofs.YthldahaimcdejaaDoorW.PrintMore
attribute [local go_sem] max2_int min2_int max_two min_two max_three min_three max_four min_four   -- for this text's walks alone
set_option linter.unusedVariables false
set_option linter.unusedSimpArgs false



def errW : Option Int → Value
 | none => .nilIface
 | some c => .iface 0 (.int .i64 c)
theorem errW_none : errW none = .nilIface := rfl
theorem errW_some (c : Int) : errW (some c) = .iface 0 (.int .i64 c) := rfl

theorem tb_wrap8 (x : Int) : IntKind.u64.wrap (x % 256) = x % 256 := by
 have h : IntKind.u64.wrap (x % 256) = (x % 256) % 18446744073709551616 := by simp [IntKind.wrap, IntKind.bits, IntKind.signed]
 rw [h]; omega
/-- What stands in xs behind copy(xs, ys). -/
def cpy {α : Type} (xs ys : List α) : List α := ys.take (min ys.length xs.length) ++ xs.drop (min ys.length xs.length)
theorem info24 : (Tryd.prog.info? 24).map (fun i => (i.zero, i.size, i.bytes)) = some (some (.int .u64 0), 1, 8) := by kernel_rfl
-- the values' own types

end Go.Proofs.YthldahaimcdejaaDoor.A
end
section
-- Printed for this claim by mp.py, a program of its prover, through the kit's print. Lean checks it.
namespace Go.Proofs.YthldahaimcdejaaDoor.A
open Go.RowKit Go.Proofs.YthldahaimcdejaaDoorW.PrintWords Go.Proofs.YthldahaimcdejaaDoorW.PrintLast Go.Proofs.YthldahaimcdejaaDoorW.PrintMore
attribute [local go_sem] max2_int min2_int max_two min_two max_three min_three max_four min_four   -- for this text's walks alone
set_option linter.unusedVariables false
set_option linter.unusedSimpArgs false

/-! ### bits_Len64: function 42 -/
def bits_Len64.f (a0 : Int) : Option (Int) := if 0 ≤ a0 then (if a0 ≤ 18446744073709551615 then (some (Lib.bitLen a0.toNat : Int)) else none) else none
theorem bits_Len64.calls (a0 : Int) (r : Int) (w : World) (h : bits_Len64.f a0 = some r) :
  Calls Tryd.prog 42 #[.int .u64 a0] w fun e w' => e = .returned (.int .i64 r) ∧ Drawn0 w w' := by
 unfold bits_Len64.f at h
 by_cases h0 : 0 ≤ a0
 ·rw [if_pos h0] at h
  by_cases h1 : a0 ≤ 18446744073709551615
  ·rw [if_pos h1] at h
   obtain rfl := Option.some.inj h
   refine (Tryd.bits_Len64 a0 w h0 h1).mono ?_
   rintro e w' ⟨rfl, rfl⟩
   exact ⟨rfl, Drawn0.refl _⟩
  ·rw [if_neg h1] at h; exact absurd h (by simp)
 ·rw [if_neg h0] at h; exact absurd h (by simp)

/-! ### ring_Degree: function 17 -/
def ring_Degree.f (a0 : Int) : Option (Int) := (bits_Len64.f a0).bind fun t101 => (some (wrap64 (t101 - 1)))
set_option maxHeartbeats 8000000 in
set_option maxRecDepth 100000 in
theorem ring_Degree.calls (a0 : Int) (r : Int) (w : World) (h : ring_Degree.f a0 = some r) :
  Calls Tryd.prog 17 #[.int .u64 a0] w fun e w' => e = .returned (.int .i64 r) ∧ Drawn0 w w' := by
 have H : ((bits_Len64.f a0).bind fun t101 => (some (wrap64 (t101 - 1)))) = some r := h
 clear h
 replace H := Option.bind_eq_some_iff.mp H
 obtain ⟨t101, A20, H⟩ := H
 replace H : (some (wrap64 (t101 - 1))) = some r := H
 have A2 := Aside0.mk A20
 clear A20
 obtain rfl := Option.some.inj H
 go_enter Tryd.func17, Tryd.ntmps17
 go_wp2_with (first | ((with_reducible refine gate_callee (f := 42) rfl ?_); refine goesL_ (some 4) rfl rfl Tryd.func42 (by kernel_rfl) rfl #[.int .u64 a0] rfl (by (try simp only [List.map_toArray, List.map_cons, List.map_nil]); first | done | rfl | (simp only [tb_wrap8]; done) | (simp only [tb_wrap8]; rfl) | (simp only [List.length_drop, List.length_take]; rfl)) ?_; (with_reducible refine (bits_Len64.calls a0 t101 _ A2.out).mono ?_); rintro e w' ⟨rfl, ⟨nd, rfl⟩⟩; refine ⟨_, rfl, ?_⟩))
 go_ret
 exact ⟨by first | rfl | (simp; done) | (simp [*]; done), by repeat (first | exact Drawn0.refl _ | apply Drawn0.step)⟩

/-! ### ring_Mul: function 19 -/
def ring_Mul.l0 : Nat → Int → Int → Int → Int → Option (Int)
 | 0, _, _, _, _ => none
 | k + 1, x0, x1, x5, x7 => if x7 < 32 then (if 0 ≤ x7 then (if (Go.bits .and .u32 (shr .u32 x1 x7) 1) = 1 then (ring_Mul.l0 k x0 x1 (Go.bits .xor .u64 x5 (shl .u64 (IntKind.u64.wrap (x0)) x7)) (wrap64 (x7 + 1))) else (ring_Mul.l0 k x0 x1 x5 (wrap64 (x7 + 1)))) else (none)) else (some x5)
def ring_Mul.f (k : Nat) (a0 : Int) (a1 : Int) : Option (Int) := ring_Mul.l0 k a0 a1 0 0
theorem ring_Mul.mono_l : ∀ k, (∀ y0 y1 y2 y3, LeO (ring_Mul.l0 k y0 y1 y2 y3) (ring_Mul.l0 (k + 1) y0 y1 y2 y3))
 | 0 => fun _ _ _ _ r h => by simp [ring_Mul.l0] at h
 | k + 1 => by
  have ih0 := ring_Mul.mono_l k
  ·intro y0 y1 y2 y3
   unfold ring_Mul.l0
   repeat' first
   | (with_reducible exact ih0 _ _ _ _)
   | (with_reducible exact LeO.refl _)
   | (with_reducible exact LeO.none _)
   | (with_reducible refine LeO.ite ?_ ?_)
   | (with_reducible refine LeO.bind ?_ (fun _ => ?_))
   | exact ih0 _ _ _ _
   | exact LeO.none _
   | refine LeO.ite ?_ ?_
   | refine LeO.bind ?_ (fun _ => ?_)
theorem ring_Mul.mono : ∀ a0 a1 k, LeO (ring_Mul.f k a0 a1) (ring_Mul.f (k + 1) a0 a1) := by
 intro a0 a1 k
 have ih0 := ring_Mul.mono_l k
 unfold ring_Mul.f
 repeat' first
   | (with_reducible exact ih0 _ _ _ _)
   | (with_reducible exact LeO.refl _)
   | (with_reducible exact LeO.none _)
   | (with_reducible refine LeO.ite ?_ ?_)
   | (with_reducible refine LeO.bind ?_ (fun _ => ?_))
   | exact ih0 _ _ _ _
   | exact LeO.none _
   | refine LeO.ite ?_ ?_
   | refine LeO.bind ?_ (fun _ => ?_)
set_option maxHeartbeats 8000000 in
set_option maxRecDepth 100000 in
theorem ring_Mul.calls (k : Nat) (a0 : Int) (a1 : Int) (r : Int) (w : World) (h : ring_Mul.f k a0 a1 = some r) :
  Calls Tryd.prog 19 #[.int .u32 a0, .int .u32 a1] w fun e w' => e = .returned (.int .u64 r) ∧ Drawn0 w w' := by
 have H : (ring_Mul.l0 k a0 a1 0 0) = some r := h
 clear h
 have H' := Aside0.mk H
 clear H
 go_enter Tryd.func19, Tryd.ntmps19
 go_wp2
 go_loopg [5, 7] k (fun kq v5 v7 w' => ∃ (x5_1 : Int) (x7_1 : Int), v5 = .int .u64 x5_1 ∧ v7 = .int .i64 x7_1 ∧ Aside0 (ring_Mul.l0 kq a0 a1 x5_1 x7_1 = some r) ∧ Aside0 (kq ≤ k) ∧ Drawn0 w w')
 case atStart => exact ⟨(0), (0), (by first | rfl | (simp; done) | (simp [*]; done)), (by first | rfl | (simp; done) | (simp [*]; done)), H', ⟨Nat.le_refl _⟩, by repeat (first | exact Drawn0.refl _ | apply Drawn0.step)⟩
 case round =>
  clear H'
  try clear c1
  try clear p2
  obtain ⟨x5_1, x7_1, rfl, rfl, HA, HK1, ⟨m1, rfl⟩⟩ := hrel
  cases gk with
  | zero => exact absurd HA.out (by simp [ring_Mul.l0])
  | succ k1 =>
   have H := HA.out
   clear HA
   simp only [ring_Mul.l0] at H
   by_cases c3 : x7_1 < 32
   ·rw [if_pos c3] at H
    have c3b0 : decide (x7_1 < 32) = true := decide_eq_true c3
    clear c3
    by_cases c4 : 0 ≤ x7_1
    ·rw [if_pos c4] at H
     have c4b0 := eq_true c4
     have c4b1 : decide (0 ≤ x7_1) = true := decide_eq_true c4
     clear c4
     obtain ⟨ji5, hji5⟩ : ∃ j_ : Int, (shr .u32 a1 x7_1) = j_ := ⟨_, rfl⟩
     replace H : (if (Go.bits .and .u32 (ji5) 1) = 1 then (ring_Mul.l0 k1 a0 a1 (Go.bits .xor .u64 x5_1 (shl .u64 (IntKind.u64.wrap (a0)) x7_1)) (wrap64 (x7_1 + 1))) else (ring_Mul.l0 k1 a0 a1 x5_1 (wrap64 (x7_1 + 1)))) = some r := by first | (rw [hji5] at H; exact H) | (simp only [hji5] at H ⊢; exact H)
     have hji5_ : (a1 / 2 ^ min x7_1.toNat 32) = ji5 := hji5
     have hji5z : x7_1 ≤ 32 → (a1 / 2 ^ x7_1.toNat) = ji5 := shr_small hji5
     by_cases c6 : (Go.bits .and .u32 (ji5) 1) = 1
     ·rw [if_pos c6] at H
      have c6b0 : ((Go.bits .and .u32 (ji5) 1) == 1) = true := beq_iff_eq.mpr c6
      have c6b1 : ((Go.bits .and .u32 (ji5) 1) != 1) = false := bne_eq_false_iff_eq.mpr c6
      clear c6
      have c7b0 := eq_true (of_decide_eq_true (by first | (with_reducible assumption) | assumption) : 0 ≤ x7_1)
      obtain ⟨ji8, hji8⟩ : ∃ j_ : Int, (shl .u64 (IntKind.u64.wrap (a0)) x7_1) = j_ := ⟨_, rfl⟩
      replace H : (ring_Mul.l0 k1 a0 a1 (Go.bits .xor .u64 x5_1 (ji8)) (wrap64 (x7_1 + 1))) = some r := by first | (rw [hji8] at H; exact H) | (simp only [hji8] at H ⊢; exact H)
      have hji8_ : (IntKind.u64.wrap ((IntKind.u64.wrap (a0)) * 2 ^ min x7_1.toNat 64)) = ji8 := hji8
      have hji8z : x7_1 ≤ 64 → (IntKind.u64.wrap ((IntKind.u64.wrap (a0)) * 2 ^ x7_1.toNat)) = ji8 := shl_small hji8
      have H' := Aside0.mk H
      clear H
      go_wp2
      go_roundg k1
      case measure => have := HK1.out; omega
      case rel => exact ⟨(Go.bits .xor .u64 x5_1 (ji8)), (wrap64 (x7_1 + 1)), (by first | rfl | (simp; done) | (simp only [← hji8] <;> (first | rfl | simp)) | (simp [*]; done)), (by first | rfl | (simp; done) | (simp [*]; done)), H', ⟨by have := HK1.out; omega⟩, by repeat (first | exact Drawn0.refl _ | apply Drawn0.step)⟩
     ·rw [if_neg c6] at H
      have c6b0 : ((Go.bits .and .u32 (ji5) 1) == 1) = false := beq_eq_false_iff_ne.mpr c6
      have c6b1 : ((Go.bits .and .u32 (ji5) 1) != 1) = true := bne_iff_ne.mpr c6
      have H' := Aside0.mk H
      clear H
      go_wp2
      go_roundg k1
      case measure => have := HK1.out; omega
      case rel => exact ⟨(x5_1), (wrap64 (x7_1 + 1)), (by first | rfl | (simp; done) | (simp [*]; done)), (by first | rfl | (simp; done) | (simp [*]; done)), H', ⟨by have := HK1.out; omega⟩, by repeat (first | exact Drawn0.refl _ | apply Drawn0.step)⟩
    ·rw [if_neg c4] at H
     exact absurd H (by simp)
   ·rw [if_neg c3] at H
    have c3b0 : decide (x7_1 < 32) = false := decide_eq_false c3
    clear c3
    obtain rfl := Option.some.inj H
    go_wp2
    go_ret
    exact ⟨by first | rfl | (simp; done) | (simp [*]; done), by repeat (first | exact Drawn0.refl _ | apply Drawn0.step)⟩

/-! ### ring_divMod: function 28 -/
def ring_divMod.l0 : Nat → Int → Int → Int → Int → Option (Int × Int)
 | 0, _, _, _, _ => none
 | k + 1, x0, x1, x4, x6 => (ring_Degree.f x0).bind fun t103 => (if (wrap64 (t103 - x6)) < 0 then (some (x4, x0)) else (if 0 ≤ (wrap64 (t103 - x6)) then (ring_divMod.l0 k (Go.bits .xor .u64 x0 (shl .u64 x1 (wrap64 (t103 - x6)))) x1 (Go.bits .or .u64 x4 (shl .u64 1 (wrap64 (t103 - x6)))) x6) else (none)))
def ring_divMod.f (k : Nat) (a0 : Int) (a1 : Int) : Option (Int × Int) := (ring_Degree.f a1).bind fun t102 => (ring_divMod.l0 k a0 a1 0 t102)
theorem ring_divMod.mono_l : ∀ k, (∀ y0 y1 y2 y3, LeO (ring_divMod.l0 k y0 y1 y2 y3) (ring_divMod.l0 (k + 1) y0 y1 y2 y3))
 | 0 => fun _ _ _ _ r h => by simp [ring_divMod.l0] at h
 | k + 1 => by
  have ih0 := ring_divMod.mono_l k
  ·intro y0 y1 y2 y3
   unfold ring_divMod.l0
   repeat' first
   | (with_reducible exact ih0 _ _ _ _)
   | (with_reducible exact LeO.refl _)
   | (with_reducible exact LeO.none _)
   | (with_reducible refine LeO.ite ?_ ?_)
   | (with_reducible refine LeO.bind ?_ (fun _ => ?_))
   | exact ih0 _ _ _ _
   | exact LeO.none _
   | refine LeO.ite ?_ ?_
   | refine LeO.bind ?_ (fun _ => ?_)
theorem ring_divMod.mono : ∀ a0 a1 k, LeO (ring_divMod.f k a0 a1) (ring_divMod.f (k + 1) a0 a1) := by
 intro a0 a1 k
 have ih0 := ring_divMod.mono_l k
 unfold ring_divMod.f
 repeat' first
   | (with_reducible exact ih0 _ _ _ _)
   | (with_reducible exact LeO.refl _)
   | (with_reducible exact LeO.none _)
   | (with_reducible refine LeO.ite ?_ ?_)
   | (with_reducible refine LeO.bind ?_ (fun _ => ?_))
   | exact ih0 _ _ _ _
   | exact LeO.none _
   | refine LeO.ite ?_ ?_
   | refine LeO.bind ?_ (fun _ => ?_)
set_option maxHeartbeats 8000000 in
set_option maxRecDepth 100000 in
theorem ring_divMod.calls (k : Nat) (a0 : Int) (a1 : Int) (r1 : Int) (r2 : Int) (w : World) (h : ring_divMod.f k a0 a1 = some (r1, r2)) :
  Calls Tryd.prog 28 #[.int .u64 a0, .int .u64 a1] w fun e w' => e = .returned (.tuple #[.int .u64 r1, .int .u64 r2]) ∧ Drawn0 w w' := by
 have H : ((ring_Degree.f a1).bind fun t102 => (ring_divMod.l0 k a0 a1 0 t102)) = some (r1, r2) := h
 clear h
 replace H := Option.bind_eq_some_iff.mp H
 obtain ⟨t102, A30, H⟩ := H
 replace H : (ring_divMod.l0 k a0 a1 0 t102) = some (r1, r2) := H
 have A3 := Aside0.mk A30
 clear A30
 have H' := Aside0.mk H
 clear H
 go_enter Tryd.func28, Tryd.ntmps28
 go_wp2_with (first | ((with_reducible refine gate_callee (f := 17) rfl ?_); refine goesL_ (some 9) rfl rfl Tryd.func17 (by kernel_rfl) rfl #[.int .u64 a1] rfl (by (try simp only [List.map_toArray, List.map_cons, List.map_nil]); first | done | rfl | (simp only [tb_wrap8]; done) | (simp only [tb_wrap8]; rfl) | (simp only [List.length_drop, List.length_take]; rfl)) ?_; (with_reducible refine (ring_Degree.calls a1 t102 _ A3.out).mono ?_); rintro e w' ⟨rfl, ⟨nd, rfl⟩⟩; refine ⟨_, rfl, ?_⟩))
 go_loopg [0, 4] k (fun kq v0 v4 w' => ∃ (x0_1 : Int) (x4_1 : Int), v0 = .int .u64 x0_1 ∧ v4 = .int .u64 x4_1 ∧ Aside0 (ring_divMod.l0 kq x0_1 a1 x4_1 t102 = some (r1, r2)) ∧ Aside0 (kq ≤ k) ∧ Drawn0 w w')
 case atStart => exact ⟨(a0), (0), (by first | rfl | (simp; done) | (simp [*]; done)), (by first | rfl | (simp; done) | (simp [*]; done)), H', ⟨Nat.le_refl _⟩, by repeat (first | exact Drawn0.refl _ | apply Drawn0.step)⟩
 case round =>
  clear H'
  try clear c1
  try clear c2
  try clear p2
  obtain ⟨x0_1, x4_1, rfl, rfl, HA, HK1, ⟨m1, rfl⟩⟩ := hrel
  cases gk with
  | zero => exact absurd HA.out (by simp [ring_divMod.l0])
  | succ k1 =>
   have H := HA.out
   clear HA
   simp only [ring_divMod.l0] at H
   replace H := Option.bind_eq_some_iff.mp H
   obtain ⟨t103, A40, H⟩ := H
   replace H : (if (wrap64 (t103 - t102)) < 0 then (some (x4_1, x0_1)) else (if 0 ≤ (wrap64 (t103 - t102)) then (ring_divMod.l0 k1 (Go.bits .xor .u64 x0_1 (shl .u64 a1 (wrap64 (t103 - t102)))) a1 (Go.bits .or .u64 x4_1 (shl .u64 1 (wrap64 (t103 - t102)))) t102) else (none))) = some (r1, r2) := H
   have A4 := Aside0.mk A40
   clear A40
   by_cases c5 : (wrap64 (t103 - t102)) < 0
   ·rw [if_pos c5] at H
    have c5b0 : decide ((wrap64 (t103 - t102)) < 0) = true := decide_eq_true c5
    clear c5
    simp only [Option.some.injEq, Prod.mk.injEq] at H
    obtain ⟨rfl, rfl⟩ := H
    go_wp2_with (first | ((with_reducible refine gate_callee (f := 17) rfl ?_); refine goesL_ (some 11) rfl rfl Tryd.func17 (by kernel_rfl) rfl #[.int .u64 x0_1] rfl (by (try simp only [List.map_toArray, List.map_cons, List.map_nil]); first | done | rfl | (simp only [tb_wrap8]; done) | (simp only [tb_wrap8]; rfl) | (simp only [List.length_drop, List.length_take]; rfl)) ?_; (with_reducible refine (ring_Degree.calls x0_1 t103 _ A4.out).mono ?_); rintro e w' ⟨rfl, ⟨nd, rfl⟩⟩; refine ⟨_, rfl, ?_⟩))
    go_ret2
    exact ⟨by first | rfl | (simp; done) | (simp [*]; done), by repeat (first | exact Drawn0.refl _ | apply Drawn0.step)⟩
   ·rw [if_neg c5] at H
    have c5b0 : decide ((wrap64 (t103 - t102)) < 0) = false := decide_eq_false c5
    clear c5
    obtain ⟨ji6, hji6⟩ : ∃ j_ : Int, (wrap64 (t103 - t102)) = j_ := ⟨_, rfl⟩
    replace H : (if 0 ≤ (ji6) then (ring_divMod.l0 k1 (Go.bits .xor .u64 x0_1 (shl .u64 a1 (ji6))) a1 (Go.bits .or .u64 x4_1 (shl .u64 1 (ji6))) t102) else (none)) = some (r1, r2) := by first | (rw [hji6] at H; exact H) | (simp only [hji6] at H ⊢; exact H)
    (try rw [hji6] at c5b0)
    (try rw [hji6] at A4)
    have hji6w : (IntKind.i64.wrap (t103 - t102)) = ji6 := (i64_w _).trans hji6
    by_cases c7 : 0 ≤ (ji6)
    ·rw [if_pos c7] at H
     have c7b0 := eq_true c7
     have c7b1 : decide (0 ≤ (ji6)) = true := decide_eq_true c7
     clear c7
     obtain ⟨ji8, hji8⟩ : ∃ j_ : Int, (shl .u64 1 (ji6)) = j_ := ⟨_, rfl⟩
     replace H : (ring_divMod.l0 k1 (Go.bits .xor .u64 x0_1 (shl .u64 a1 (ji6))) a1 (Go.bits .or .u64 x4_1 (ji8)) t102) = some (r1, r2) := by first | (rw [hji8] at H; exact H) | (simp only [hji8] at H ⊢; exact H)
     (try rw [hji8] at A4)
     have hji8_ : (IntKind.u64.wrap (1 * 2 ^ min (ji6).toNat 64)) = ji8 := hji8
     have hji8z : (ji6) ≤ 64 → (IntKind.u64.wrap (1 * 2 ^ (ji6).toNat)) = ji8 := shl_small hji8
     have hji8u : (IntKind.u64.wrap (2 ^ min (ji6).toNat 64)) = ji8 := by have h_ := hji8_; rw [Int.one_mul] at h_; exact h_
     have hji8v : (ji6) ≤ 64 → (IntKind.u64.wrap (2 ^ (ji6).toNat)) = ji8 := fun hle_ => by have h_ := hji8z hle_; rw [Int.one_mul] at h_; exact h_
     have c9b0 := eq_true (of_decide_eq_true (by first | (with_reducible assumption) | assumption) : 0 ≤ (ji6))
     obtain ⟨ji10, hji10⟩ : ∃ j_ : Int, (shl .u64 a1 (ji6)) = j_ := ⟨_, rfl⟩
     replace H : (ring_divMod.l0 k1 (Go.bits .xor .u64 x0_1 (ji10)) a1 (Go.bits .or .u64 x4_1 (ji8)) t102) = some (r1, r2) := by first | (rw [hji10] at H; exact H) | (simp only [hji10] at H ⊢; exact H)
     (try rw [hji10] at A4)
     have hji10_ : (IntKind.u64.wrap (a1 * 2 ^ min (ji6).toNat 64)) = ji10 := hji10
     have hji10z : (ji6) ≤ 64 → (IntKind.u64.wrap (a1 * 2 ^ (ji6).toNat)) = ji10 := shl_small hji10
     have H' := Aside0.mk H
     clear H
     go_wp2_with (first | ((with_reducible refine gate_callee (f := 17) rfl ?_); refine goesL_ (some 11) rfl rfl Tryd.func17 (by kernel_rfl) rfl #[.int .u64 x0_1] rfl (by (try simp only [List.map_toArray, List.map_cons, List.map_nil]); first | done | rfl | (simp only [tb_wrap8]; done) | (simp only [tb_wrap8]; rfl) | (simp only [List.length_drop, List.length_take]; rfl)) ?_; (with_reducible refine (ring_Degree.calls x0_1 t103 _ A4.out).mono ?_); rintro e w' ⟨rfl, ⟨nd, rfl⟩⟩; refine ⟨_, rfl, ?_⟩))
     go_roundg k1
     case measure => have := HK1.out; omega
     case rel => exact ⟨(Go.bits .xor .u64 x0_1 (ji10)), (Go.bits .or .u64 x4_1 (ji8)), (by first | rfl | (simp; done) | (simp only [← hji10] <;> (first | rfl | simp)) | (simp [*]; done)), (by first | rfl | (simp; done) | (simp only [← hji8] <;> (first | rfl | simp)) | (simp [*]; done)), H', ⟨by have := HK1.out; omega⟩, by repeat (first | exact Drawn0.refl _ | apply Drawn0.step)⟩
    ·rw [if_neg c7] at H
     exact absurd H (by simp)

/-! ### ring_DivMod: function 21 -/
def ring_DivMod.f (k : Nat) (a0 : Int) (a1 : Int) : Option (Int × Int × Int) := if a1 = 0 then (some (0, 0, 10)) else ((ring_divMod.f k a0 a1).bind fun bt104 => (some (bt104.1, bt104.2, 0)))
theorem ring_DivMod.mono : ∀ a0 a1 k, LeO (ring_DivMod.f k a0 a1) (ring_DivMod.f (k + 1) a0 a1) := by
 intro a0 a1 k
 unfold ring_DivMod.f
 repeat' first
   | (with_reducible exact ring_divMod.mono _ _ _)
   | (with_reducible exact LeO.refl _)
   | (with_reducible exact LeO.none _)
   | (with_reducible refine LeO.ite ?_ ?_)
   | (with_reducible refine LeO.bind ?_ (fun _ => ?_))
   | exact ring_divMod.mono _ _ _
   | exact LeO.none _
   | refine LeO.ite ?_ ?_
   | refine LeO.bind ?_ (fun _ => ?_)
set_option maxHeartbeats 8000000 in
set_option maxRecDepth 100000 in
theorem ring_DivMod.calls (k : Nat) (a0 : Int) (a1 : Int) (r1 : Int) (r2 : Int) (r3 : Int) (w : World) (h : ring_DivMod.f k a0 a1 = some (r1, r2, r3)) :
  Calls Tryd.prog 21 #[.int .u64 a0, .int .u64 a1] w fun e w' => e = .returned (.tuple #[.int .u64 r1, .int .u64 r2, .int .i64 r3]) ∧ Drawn0 w w' := by
 have H : (if a1 = 0 then (some (0, 0, 10)) else ((ring_divMod.f k a0 a1).bind fun bt104 => (some (bt104.1, bt104.2, 0)))) = some (r1, r2, r3) := h
 clear h
 by_cases c3 : a1 = 0
 ·rw [if_pos c3] at H
  have c3b0 : (a1 == 0) = true := beq_iff_eq.mpr c3
  have c3b1 : (a1 != 0) = false := bne_eq_false_iff_eq.mpr c3
  clear c3
  simp only [Option.some.injEq, Prod.mk.injEq] at H
  obtain ⟨rfl, rfl, rfl⟩ := H
  go_enter Tryd.func21, Tryd.ntmps21
  go_wp2
  go_ret3
  exact ⟨by first | rfl | (simp; done) | (simp [*]; done), by repeat (first | exact Drawn0.refl _ | apply Drawn0.step)⟩
 ·rw [if_neg c3] at H
  have c3b0 : (a1 == 0) = false := beq_eq_false_iff_ne.mpr c3
  have c3b1 : (a1 != 0) = true := bne_iff_ne.mpr c3
  replace H := Option.bind_eq_some_iff.mp H
  obtain ⟨⟨t104, t105⟩, A40, H⟩ := H
  replace H : (some (t104, t105, 0)) = some (r1, r2, r3) := H
  have A4 := Aside0.mk A40
  clear A40
  simp only [Option.some.injEq, Prod.mk.injEq] at H
  obtain ⟨rfl, rfl, rfl⟩ := H
  go_enter Tryd.func21, Tryd.ntmps21
  go_wp2_with (first | ((with_reducible refine gate_callee (f := 28) rfl ?_); refine goesL_ (some 12) rfl rfl Tryd.func28 (by kernel_rfl) rfl #[.int .u64 a0, .int .u64 a1] rfl (by (try simp only [List.map_toArray, List.map_cons, List.map_nil]); first | done | rfl | (simp only [tb_wrap8]; done) | (simp only [tb_wrap8]; rfl) | (simp only [List.length_drop, List.length_take]; rfl)) ?_; (with_reducible refine (ring_divMod.calls k a0 a1 t104 t105 _ A4.out).mono ?_); rintro e w' ⟨rfl, ⟨nd, rfl⟩⟩; refine ⟨_, rfl, ?_⟩))
  go_ret3
  exact ⟨by first | rfl | (simp; done) | (simp [*]; done), by repeat (first | exact Drawn0.refl _ | apply Drawn0.step)⟩

/-! ### ring_Gcd: function 13 -/
def ring_Gcd.l0 : Nat → Int → Int → Option (Int)
 | 0, _, _ => none
 | k + 1, x0, x1 => if x1 = 0 then (some x0) else ((ring_divMod.f k x0 x1).bind fun bt106 => (ring_Gcd.l0 k x1 bt106.2))
def ring_Gcd.f (k : Nat) (a0 : Int) (a1 : Int) : Option (Int) := ring_Gcd.l0 k a0 a1
theorem ring_Gcd.mono_l : ∀ k, (∀ y0 y1, LeO (ring_Gcd.l0 k y0 y1) (ring_Gcd.l0 (k + 1) y0 y1))
 | 0 => fun _ _ r h => by simp [ring_Gcd.l0] at h
 | k + 1 => by
  have ih0 := ring_Gcd.mono_l k
  ·intro y0 y1
   unfold ring_Gcd.l0
   repeat' first
   | (with_reducible exact ih0 _ _)
   | (with_reducible exact ring_divMod.mono _ _ _)
   | (with_reducible exact LeO.refl _)
   | (with_reducible exact LeO.none _)
   | (with_reducible refine LeO.ite ?_ ?_)
   | (with_reducible refine LeO.bind ?_ (fun _ => ?_))
   | exact ih0 _ _
   | exact ring_divMod.mono _ _ _
   | exact LeO.none _
   | refine LeO.ite ?_ ?_
   | refine LeO.bind ?_ (fun _ => ?_)
theorem ring_Gcd.mono : ∀ a0 a1 k, LeO (ring_Gcd.f k a0 a1) (ring_Gcd.f (k + 1) a0 a1) := by
 intro a0 a1 k
 have ih0 := ring_Gcd.mono_l k
 unfold ring_Gcd.f
 repeat' first
   | (with_reducible exact ih0 _ _)
   | (with_reducible exact ring_divMod.mono _ _ _)
   | (with_reducible exact LeO.refl _)
   | (with_reducible exact LeO.none _)
   | (with_reducible refine LeO.ite ?_ ?_)
   | (with_reducible refine LeO.bind ?_ (fun _ => ?_))
   | exact ih0 _ _
   | exact ring_divMod.mono _ _ _
   | exact LeO.none _
   | refine LeO.ite ?_ ?_
   | refine LeO.bind ?_ (fun _ => ?_)
set_option maxHeartbeats 8000000 in
set_option maxRecDepth 100000 in
theorem ring_Gcd.calls (k : Nat) (a0 : Int) (a1 : Int) (r : Int) (w : World) (h : ring_Gcd.f k a0 a1 = some r) :
  Calls Tryd.prog 13 #[.int .u64 a0, .int .u64 a1] w fun e w' => e = .returned (.int .u64 r) ∧ Drawn0 w w' := by
 have H : (ring_Gcd.l0 k a0 a1) = some r := h
 clear h
 have H' := Aside0.mk H
 clear H
 go_enter Tryd.func13, Tryd.ntmps13
 go_wp2
 go_loopg [0, 1] k (fun kq v0 v1 w' => ∃ (x0_1 : Int) (x1_1 : Int), v0 = .int .u64 x0_1 ∧ v1 = .int .u64 x1_1 ∧ Aside0 (ring_Gcd.l0 kq x0_1 x1_1 = some r) ∧ Aside0 (kq ≤ k) ∧ Drawn0 w w')
 case atStart => exact ⟨(a0), (a1), (by first | rfl | (simp; done) | (simp [*]; done)), (by first | rfl | (simp; done) | (simp [*]; done)), H', ⟨Nat.le_refl _⟩, by repeat (first | exact Drawn0.refl _ | apply Drawn0.step)⟩
 case round =>
  clear H'
  try clear c1
  try clear p2
  obtain ⟨x0_1, x1_1, rfl, rfl, HA, HK1, ⟨m1, rfl⟩⟩ := hrel
  cases gk with
  | zero => exact absurd HA.out (by simp [ring_Gcd.l0])
  | succ k1 =>
   have H := HA.out
   clear HA
   simp only [ring_Gcd.l0] at H
   by_cases c3 : x1_1 = 0
   ·rw [if_pos c3] at H
    have c3b0 : (x1_1 == 0) = true := beq_iff_eq.mpr c3
    have c3b1 : (x1_1 != 0) = false := bne_eq_false_iff_eq.mpr c3
    clear c3
    obtain rfl := Option.some.inj H
    go_wp2
    go_ret
    exact ⟨by first | rfl | (simp; done) | (simp [*]; done), by repeat (first | exact Drawn0.refl _ | apply Drawn0.step)⟩
   ·rw [if_neg c3] at H
    have c3b0 : (x1_1 == 0) = false := beq_eq_false_iff_ne.mpr c3
    have c3b1 : (x1_1 != 0) = true := bne_iff_ne.mpr c3
    replace H := Option.bind_eq_some_iff.mp H
    obtain ⟨⟨t106, t107⟩, A40, H⟩ := H
    replace H : (ring_Gcd.l0 k1 x1_1 t107) = some r := H
    have A4 := Aside0.mk A40
    clear A40
    have H' := Aside0.mk H
    clear H
    go_wp2_with (first | ((with_reducible refine gate_callee (f := 28) rfl ?_); refine goesL_ (some 12) rfl rfl Tryd.func28 (by kernel_rfl) rfl #[.int .u64 x0_1, .int .u64 x1_1] rfl (by (try simp only [List.map_toArray, List.map_cons, List.map_nil]); first | done | rfl | (simp only [tb_wrap8]; done) | (simp only [tb_wrap8]; rfl) | (simp only [List.length_drop, List.length_take]; rfl)) ?_; (with_reducible refine (ring_divMod.calls k1 x0_1 x1_1 t106 t107 _ A4.out).mono ?_); rintro e w' ⟨rfl, ⟨nd, rfl⟩⟩; refine ⟨_, rfl, ?_⟩))
    go_roundg k1
    case measure => have := HK1.out; omega
    case rel => exact ⟨(x1_1), (t107), (by first | rfl | (simp; done) | (simp [*]; done)), (by first | rfl | (simp; done) | (simp [*]; done)), H', ⟨by have := HK1.out; omega⟩, by repeat (first | exact Drawn0.refl _ | apply Drawn0.step)⟩

end Go.Proofs.YthldahaimcdejaaDoor.A
end
section
-- Printed for this claim by mp.py, a program of its prover, through the kit's print. Lean checks it.
namespace Go.Proofs.YthldahaimcdejaaDoor.A
open Go.RowKit Go.Proofs.YthldahaimcdejaaDoorW.PrintWords Go.Proofs.YthldahaimcdejaaDoorW.PrintLast Go.Proofs.YthldahaimcdejaaDoorW.PrintMore
attribute [local go_sem] max2_int min2_int max_two min_two max_three min_three max_four min_four   -- for this text's walks alone
set_option linter.unusedVariables false
set_option linter.unusedSimpArgs false

/-! ### ring_Bezout: function 26 -/
def ring_Bezout.l0 : Nat → Int → Int → Int → Int → Int → Int → Option (Int × Int × Int)
 | 0, _, _, _, _, _, _ => none
 | k + 1, x0, x1, x7, x8, x9, x10 => if x8 = 0 then ((ring_divMod.f k (IntKind.u64.wrap (x1)) x7).bind fun bt111 => ((ring_divMod.f k x9 bt111.1).bind fun bt113 => ((ring_Mul.f k ((bt113.2) % 4294967296) x0).bind fun t115 => ((ring_divMod.f k (Go.bits .xor .u64 t115 x7) (IntKind.u64.wrap (x1))).bind fun bt116 => (some ((x7) % 4294967296, (bt113.2) % 4294967296, (bt116.1) % 4294967296)))))) else ((ring_divMod.f k x7 x8).bind fun bt108 => ((ring_Mul.f k ((bt108.1) % 4294967296) ((x10) % 4294967296)).bind fun t110 => (ring_Bezout.l0 k x0 x1 x8 bt108.2 x10 (Go.bits .xor .u64 x9 t110))))
def ring_Bezout.f (k : Nat) (a0 : Int) (a1 : Int) : Option (Int × Int × Int) := if a1 = 0 then (if a0 = 0 then (some (0, 0, 0)) else (some (a0, 1, 0))) else (ring_Bezout.l0 k a0 a1 (IntKind.u64.wrap (a0)) (IntKind.u64.wrap (a1)) 1 0)
theorem ring_Bezout.mono_l : ∀ k, (∀ y0 y1 y2 y3 y4 y5, LeO (ring_Bezout.l0 k y0 y1 y2 y3 y4 y5) (ring_Bezout.l0 (k + 1) y0 y1 y2 y3 y4 y5))
 | 0 => fun _ _ _ _ _ _ r h => by simp [ring_Bezout.l0] at h
 | k + 1 => by
  have ih0 := ring_Bezout.mono_l k
  ·intro y0 y1 y2 y3 y4 y5
   unfold ring_Bezout.l0
   repeat' first
   | (with_reducible exact ih0 _ _ _ _ _ _)
   | (with_reducible exact ring_Mul.mono _ _ _)
   | (with_reducible exact ring_divMod.mono _ _ _)
   | (with_reducible exact LeO.refl _)
   | (with_reducible exact LeO.none _)
   | (with_reducible refine LeO.ite ?_ ?_)
   | (with_reducible refine LeO.bind ?_ (fun _ => ?_))
   | exact ih0 _ _ _ _ _ _
   | exact ring_Mul.mono _ _ _
   | exact ring_divMod.mono _ _ _
   | exact LeO.none _
   | refine LeO.ite ?_ ?_
   | refine LeO.bind ?_ (fun _ => ?_)
theorem ring_Bezout.mono : ∀ a0 a1 k, LeO (ring_Bezout.f k a0 a1) (ring_Bezout.f (k + 1) a0 a1) := by
 intro a0 a1 k
 have ih0 := ring_Bezout.mono_l k
 unfold ring_Bezout.f
 repeat' first
   | (with_reducible exact ih0 _ _ _ _ _ _)
   | (with_reducible exact ring_Mul.mono _ _ _)
   | (with_reducible exact ring_divMod.mono _ _ _)
   | (with_reducible exact LeO.refl _)
   | (with_reducible exact LeO.none _)
   | (with_reducible refine LeO.ite ?_ ?_)
   | (with_reducible refine LeO.bind ?_ (fun _ => ?_))
   | exact ih0 _ _ _ _ _ _
   | exact ring_Mul.mono _ _ _
   | exact ring_divMod.mono _ _ _
   | exact LeO.none _
   | refine LeO.ite ?_ ?_
   | refine LeO.bind ?_ (fun _ => ?_)
set_option maxHeartbeats 8000000 in
set_option maxRecDepth 100000 in
theorem ring_Bezout.calls (k : Nat) (a0 : Int) (a1 : Int) (r1 : Int) (r2 : Int) (r3 : Int) (w : World) (h : ring_Bezout.f k a0 a1 = some (r1, r2, r3)) :
  Calls Tryd.prog 26 #[.int .u32 a0, .int .u32 a1] w fun e w' => e = .returned (.tuple #[.int .u32 r1, .int .u32 r2, .int .u32 r3]) ∧ Drawn0 w w' := by
 have H : (if a1 = 0 then (if a0 = 0 then (some (0, 0, 0)) else (some (a0, 1, 0))) else (ring_Bezout.l0 k a0 a1 (IntKind.u64.wrap (a0)) (IntKind.u64.wrap (a1)) 1 0)) = some (r1, r2, r3) := h
 clear h
 by_cases c3 : a1 = 0
 ·rw [if_pos c3] at H
  have c3b0 : (a1 == 0) = true := beq_iff_eq.mpr c3
  have c3b1 : (a1 != 0) = false := bne_eq_false_iff_eq.mpr c3
  clear c3
  by_cases c4 : a0 = 0
  ·rw [if_pos c4] at H
   have c4b0 : (a0 == 0) = true := beq_iff_eq.mpr c4
   have c4b1 : (a0 != 0) = false := bne_eq_false_iff_eq.mpr c4
   clear c4
   simp only [Option.some.injEq, Prod.mk.injEq] at H
   obtain ⟨rfl, rfl, rfl⟩ := H
   go_enter Tryd.func26, Tryd.ntmps26
   go_wp2
   go_ret3
   exact ⟨by first | rfl | (simp; done) | (simp [*]; done), by repeat (first | exact Drawn0.refl _ | apply Drawn0.step)⟩
  ·rw [if_neg c4] at H
   have c4b0 : (a0 == 0) = false := beq_eq_false_iff_ne.mpr c4
   have c4b1 : (a0 != 0) = true := bne_iff_ne.mpr c4
   simp only [Option.some.injEq, Prod.mk.injEq] at H
   obtain ⟨rfl, rfl, rfl⟩ := H
   go_enter Tryd.func26, Tryd.ntmps26
   go_wp2
   go_ret3
   exact ⟨by first | rfl | (simp; done) | (simp [*]; done), by repeat (first | exact Drawn0.refl _ | apply Drawn0.step)⟩
 ·rw [if_neg c3] at H
  have c3b0 : (a1 == 0) = false := beq_eq_false_iff_ne.mpr c3
  have c3b1 : (a1 != 0) = true := bne_iff_ne.mpr c3
  have H' := Aside0.mk H
  clear H
  go_enter Tryd.func26, Tryd.ntmps26
  go_wp2
  go_loopg [7, 8, 9, 10] k (fun kq v7 v8 v9 v10 w' => ∃ (x7_1 : Int) (x8_1 : Int) (x9_1 : Int) (x10_1 : Int), v7 = .int .u64 x7_1 ∧ v8 = .int .u64 x8_1 ∧ v9 = .int .u64 x9_1 ∧ v10 = .int .u64 x10_1 ∧ Aside0 (ring_Bezout.l0 kq a0 a1 x7_1 x8_1 x9_1 x10_1 = some (r1, r2, r3)) ∧ Aside0 (kq ≤ k) ∧ Drawn0 w w')
  case atStart => exact ⟨(IntKind.u64.wrap (a0)), (IntKind.u64.wrap (a1)), (1), (0), (by first | rfl | (simp; done) | (simp [*]; done)), (by first | rfl | (simp; done) | (simp [*]; done)), (by first | rfl | (simp; done) | (simp [*]; done)), (by first | rfl | (simp; done) | (simp [*]; done)), H', ⟨Nat.le_refl _⟩, by repeat (first | exact Drawn0.refl _ | apply Drawn0.step)⟩
  case round =>
   clear H'
   try clear c2
   try clear p2
   try clear c3
   try clear c3b0
   try clear c3b1
   try clear c4
   try clear c4b0
   try clear c4b1
   obtain ⟨x7_1, x8_1, x9_1, x10_1, rfl, rfl, rfl, rfl, HA, HK1, ⟨m1, rfl⟩⟩ := hrel
   cases gk with
   | zero => exact absurd HA.out (by simp [ring_Bezout.l0])
   | succ k1 =>
    have H := HA.out
    clear HA
    simp only [ring_Bezout.l0] at H
    by_cases c5 : x8_1 = 0
    ·rw [if_pos c5] at H
     have c5b0 : (x8_1 == 0) = true := beq_iff_eq.mpr c5
     have c5b1 : (x8_1 != 0) = false := bne_eq_false_iff_eq.mpr c5
     clear c5
     replace H := Option.bind_eq_some_iff.mp H
     obtain ⟨⟨t111, t112⟩, A60, H⟩ := H
     replace H : ((ring_divMod.f k1 x9_1 t111).bind fun bt113 => ((ring_Mul.f k1 ((bt113.2) % 4294967296) a0).bind fun t115 => ((ring_divMod.f k1 (Go.bits .xor .u64 t115 x7_1) (IntKind.u64.wrap (a1))).bind fun bt116 => (some ((x7_1) % 4294967296, (bt113.2) % 4294967296, (bt116.1) % 4294967296))))) = some (r1, r2, r3) := H
     have A6 := Aside0.mk A60
     clear A60
     replace H := Option.bind_eq_some_iff.mp H
     obtain ⟨⟨t113, t114⟩, A70, H⟩ := H
     replace H : ((ring_Mul.f k1 ((t114) % 4294967296) a0).bind fun t115 => ((ring_divMod.f k1 (Go.bits .xor .u64 t115 x7_1) (IntKind.u64.wrap (a1))).bind fun bt116 => (some ((x7_1) % 4294967296, (t114) % 4294967296, (bt116.1) % 4294967296)))) = some (r1, r2, r3) := H
     have A7 := Aside0.mk A70
     clear A70
     replace H := Option.bind_eq_some_iff.mp H
     obtain ⟨t115, A80, H⟩ := H
     replace H : ((ring_divMod.f k1 (Go.bits .xor .u64 t115 x7_1) (IntKind.u64.wrap (a1))).bind fun bt116 => (some ((x7_1) % 4294967296, (t114) % 4294967296, (bt116.1) % 4294967296))) = some (r1, r2, r3) := H
     have A8 := Aside0.mk A80
     clear A80
     replace H := Option.bind_eq_some_iff.mp H
     obtain ⟨⟨t116, t117⟩, A90, H⟩ := H
     replace H : (some ((x7_1) % 4294967296, (t114) % 4294967296, (t116) % 4294967296)) = some (r1, r2, r3) := H
     have A9 := Aside0.mk A90
     clear A90
     simp only [Option.some.injEq, Prod.mk.injEq] at H
     obtain ⟨rfl, rfl, rfl⟩ := H
     go_wp2_with (first | ((with_reducible refine gate_callee (f := 28) rfl ?_); refine goesL_ (some 48) rfl rfl Tryd.func28 (by kernel_rfl) rfl #[.int .u64 (IntKind.u64.wrap (a1)), .int .u64 x7_1] rfl (by (try simp only [List.map_toArray, List.map_cons, List.map_nil]); first | done | rfl | (simp only [tb_wrap8]; done) | (simp only [tb_wrap8]; rfl) | (simp only [List.length_drop, List.length_take]; rfl)) ?_; (with_reducible refine (ring_divMod.calls k1 (IntKind.u64.wrap (a1)) x7_1 t111 t112 _ A6.out).mono ?_); rintro e w' ⟨rfl, ⟨nd, rfl⟩⟩; refine ⟨_, rfl, ?_⟩) | ((with_reducible refine gate_callee (f := 28) rfl ?_); refine goesL_ (some 54) rfl rfl Tryd.func28 (by kernel_rfl) rfl #[.int .u64 x9_1, .int .u64 t111] rfl (by (try simp only [List.map_toArray, List.map_cons, List.map_nil]); first | done | rfl | (simp only [tb_wrap8]; done) | (simp only [tb_wrap8]; rfl) | (simp only [List.length_drop, List.length_take]; rfl)) ?_; (with_reducible refine (ring_divMod.calls k1 x9_1 t111 t113 t114 _ A7.out).mono ?_); rintro e w' ⟨rfl, ⟨nd, rfl⟩⟩; refine ⟨_, rfl, ?_⟩) | ((with_reducible refine gate_callee (f := 19) rfl ?_); refine goesL_ (some 61) rfl rfl Tryd.func19 (by kernel_rfl) rfl #[.int .u32 ((t114) % 4294967296), .int .u32 a0] rfl (by (try simp only [List.map_toArray, List.map_cons, List.map_nil]); first | done | rfl | (simp only [tb_wrap8]; done) | (simp only [tb_wrap8]; rfl) | (simp only [List.length_drop, List.length_take]; rfl)) ?_; (with_reducible refine (ring_Mul.calls k1 ((t114) % 4294967296) a0 t115 _ A8.out).mono ?_); rintro e w' ⟨rfl, ⟨nd, rfl⟩⟩; refine ⟨_, rfl, ?_⟩) | ((with_reducible refine gate_callee (f := 28) rfl ?_); refine goesL_ (some 66) rfl rfl Tryd.func28 (by kernel_rfl) rfl #[.int .u64 (Go.bits .xor .u64 t115 x7_1), .int .u64 (IntKind.u64.wrap (a1))] rfl (by (try simp only [List.map_toArray, List.map_cons, List.map_nil]); first | done | rfl | (simp only [tb_wrap8]; done) | (simp only [tb_wrap8]; rfl) | (simp only [List.length_drop, List.length_take]; rfl)) ?_; (with_reducible refine (ring_divMod.calls k1 (Go.bits .xor .u64 t115 x7_1) (IntKind.u64.wrap (a1)) t116 t117 _ A9.out).mono ?_); rintro e w' ⟨rfl, ⟨nd, rfl⟩⟩; refine ⟨_, rfl, ?_⟩))
     go_ret3
     exact ⟨by first | rfl | (simp; done) | (simp [*]; done), by repeat (first | exact Drawn0.refl _ | apply Drawn0.step)⟩
    ·rw [if_neg c5] at H
     have c5b0 : (x8_1 == 0) = false := beq_eq_false_iff_ne.mpr c5
     have c5b1 : (x8_1 != 0) = true := bne_iff_ne.mpr c5
     replace H := Option.bind_eq_some_iff.mp H
     obtain ⟨⟨t108, t109⟩, A100, H⟩ := H
     replace H : ((ring_Mul.f k1 ((t108) % 4294967296) ((x10_1) % 4294967296)).bind fun t110 => (ring_Bezout.l0 k1 a0 a1 x8_1 t109 x10_1 (Go.bits .xor .u64 x9_1 t110))) = some (r1, r2, r3) := H
     have A10 := Aside0.mk A100
     clear A100
     replace H := Option.bind_eq_some_iff.mp H
     obtain ⟨t110, A110, H⟩ := H
     replace H : (ring_Bezout.l0 k1 a0 a1 x8_1 t109 x10_1 (Go.bits .xor .u64 x9_1 t110)) = some (r1, r2, r3) := H
     have A11 := Aside0.mk A110
     clear A110
     have H' := Aside0.mk H
     clear H
     go_wp2_with (first | ((with_reducible refine gate_callee (f := 28) rfl ?_); refine goesL_ (some 31) rfl rfl Tryd.func28 (by kernel_rfl) rfl #[.int .u64 x7_1, .int .u64 x8_1] rfl (by (try simp only [List.map_toArray, List.map_cons, List.map_nil]); first | done | rfl | (simp only [tb_wrap8]; done) | (simp only [tb_wrap8]; rfl) | (simp only [List.length_drop, List.length_take]; rfl)) ?_; (with_reducible refine (ring_divMod.calls k1 x7_1 x8_1 t108 t109 _ A10.out).mono ?_); rintro e w' ⟨rfl, ⟨nd, rfl⟩⟩; refine ⟨_, rfl, ?_⟩) | ((with_reducible refine gate_callee (f := 19) rfl ?_); refine goesL_ (some 42) rfl rfl Tryd.func19 (by kernel_rfl) rfl #[.int .u32 ((t108) % 4294967296), .int .u32 ((x10_1) % 4294967296)] rfl (by (try simp only [List.map_toArray, List.map_cons, List.map_nil]); first | done | rfl | (simp only [tb_wrap8]; done) | (simp only [tb_wrap8]; rfl) | (simp only [List.length_drop, List.length_take]; rfl)) ?_; (with_reducible refine (ring_Mul.calls k1 ((t108) % 4294967296) ((x10_1) % 4294967296) t110 _ A11.out).mono ?_); rintro e w' ⟨rfl, ⟨nd, rfl⟩⟩; refine ⟨_, rfl, ?_⟩))
     go_roundg k1
     case measure => have := HK1.out; omega
     case rel => exact ⟨(x8_1), (t109), (x10_1), (Go.bits .xor .u64 x9_1 t110), (by first | rfl | (simp; done) | (simp [*]; done)), (by first | rfl | (simp; done) | (simp [*]; done)), (by first | rfl | (simp; done) | (simp [*]; done)), (by first | rfl | (simp; done) | (simp [*]; done)), H', ⟨by have := HK1.out; omega⟩, by repeat (first | exact Drawn0.refl _ | apply Drawn0.step)⟩

/-! ### ring_isModulus: function 45 -/
def ring_isModulus.f (a0 : Int) (a1 : Int) : Option (Bool) := (ring_Degree.f a0).bind fun t118 => (if t118 ≥ 1 then (some (decide (t118 ≤ a1))) else (some false))
set_option maxHeartbeats 8000000 in
set_option maxRecDepth 100000 in
theorem ring_isModulus.calls (a0 : Int) (a1 : Int) (r : Bool) (w : World) (h : ring_isModulus.f a0 a1 = some r) :
  Calls Tryd.prog 45 #[.int .u64 a0, .int .i64 a1] w fun e w' => e = .returned (.bool r) ∧ Drawn0 w w' := by
 have H : ((ring_Degree.f a0).bind fun t118 => (if t118 ≥ 1 then (some (decide (t118 ≤ a1))) else (some false))) = some r := h
 clear h
 replace H := Option.bind_eq_some_iff.mp H
 obtain ⟨t118, A30, H⟩ := H
 replace H : (if t118 ≥ 1 then (some (decide (t118 ≤ a1))) else (some false)) = some r := H
 have A3 := Aside0.mk A30
 clear A30
 by_cases c4 : t118 ≥ 1
 ·rw [if_pos c4] at H
  have c4b0 : decide (1 ≤ t118) = true := decide_eq_true c4
  clear c4
  obtain rfl := Option.some.inj H
  go_enter Tryd.func45, Tryd.ntmps45
  go_wp2_with (first | ((with_reducible refine gate_callee (f := 17) rfl ?_); refine goesL_ (some 7) rfl rfl Tryd.func17 (by kernel_rfl) rfl #[.int .u64 a0] rfl (by (try simp only [List.map_toArray, List.map_cons, List.map_nil]); first | done | rfl | (simp only [tb_wrap8]; done) | (simp only [tb_wrap8]; rfl) | (simp only [List.length_drop, List.length_take]; rfl)) ?_; (with_reducible refine (ring_Degree.calls a0 t118 _ A3.out).mono ?_); rintro e w' ⟨rfl, ⟨nd, rfl⟩⟩; refine ⟨_, rfl, ?_⟩))
  go_ret
  exact ⟨by first | rfl | (simp; done) | (simp [*]; done), by repeat (first | exact Drawn0.refl _ | apply Drawn0.step)⟩
 ·rw [if_neg c4] at H
  have c4b0 : decide (1 ≤ t118) = false := decide_eq_false c4
  clear c4
  obtain rfl := Option.some.inj H
  go_enter Tryd.func45, Tryd.ntmps45
  go_wp2_with (first | ((with_reducible refine gate_callee (f := 17) rfl ?_); refine goesL_ (some 7) rfl rfl Tryd.func17 (by kernel_rfl) rfl #[.int .u64 a0] rfl (by (try simp only [List.map_toArray, List.map_cons, List.map_nil]); first | done | rfl | (simp only [tb_wrap8]; done) | (simp only [tb_wrap8]; rfl) | (simp only [List.length_drop, List.length_take]; rfl)) ?_; (with_reducible refine (ring_Degree.calls a0 t118 _ A3.out).mono ?_); rintro e w' ⟨rfl, ⟨nd, rfl⟩⟩; refine ⟨_, rfl, ?_⟩))
  go_ret
  exact ⟨by first | rfl | (simp; done) | (simp [*]; done), by repeat (first | exact Drawn0.refl _ | apply Drawn0.step)⟩

/-! ### ring_mulMod: function 46 -/
def ring_mulMod.l0 : Nat → Int → Int → Int → Int → Int → Int → Option (Int)
 | 0, _, _, _, _, _, _ => none
 | k + 1, x0, x1, x2, x7, x8, x9 => if x9 ≥ 0 then (if 0 ≤ x7 then (if (Go.bits .and .u64 (shr .u64 (IntKind.u64.wrap (x8 * 2)) x7) 1) = 1 then (if 0 ≤ x9 then (if (Go.bits .and .u64 (shr .u64 x1 x9) 1) = 1 then (ring_mulMod.l0 k x0 x1 x2 x7 (Go.bits .xor .u64 (Go.bits .xor .u64 (IntKind.u64.wrap (x8 * 2)) x2) x0) (wrap64 (x9 - 1))) else (ring_mulMod.l0 k x0 x1 x2 x7 (Go.bits .xor .u64 (IntKind.u64.wrap (x8 * 2)) x2) (wrap64 (x9 - 1)))) else (none)) else (if 0 ≤ x9 then (if (Go.bits .and .u64 (shr .u64 x1 x9) 1) = 1 then (ring_mulMod.l0 k x0 x1 x2 x7 (Go.bits .xor .u64 (IntKind.u64.wrap (x8 * 2)) x0) (wrap64 (x9 - 1))) else (ring_mulMod.l0 k x0 x1 x2 x7 (IntKind.u64.wrap (x8 * 2)) (wrap64 (x9 - 1)))) else (none))) else (none)) else (some x8)
def ring_mulMod.f (k : Nat) (a0 : Int) (a1 : Int) (a2 : Int) : Option (Int) := (ring_divMod.f k a0 a2).bind fun bt119 => ((ring_divMod.f k a1 a2).bind fun bt121 => ((ring_Degree.f a2).bind fun t123 => (ring_mulMod.l0 k bt119.2 bt121.2 a2 t123 0 (wrap64 (t123 - 1)))))
theorem ring_mulMod.mono_l : ∀ k, (∀ y0 y1 y2 y3 y4 y5, LeO (ring_mulMod.l0 k y0 y1 y2 y3 y4 y5) (ring_mulMod.l0 (k + 1) y0 y1 y2 y3 y4 y5))
 | 0 => fun _ _ _ _ _ _ r h => by simp [ring_mulMod.l0] at h
 | k + 1 => by
  have ih0 := ring_mulMod.mono_l k
  ·intro y0 y1 y2 y3 y4 y5
   unfold ring_mulMod.l0
   repeat' first
   | (with_reducible exact ih0 _ _ _ _ _ _)
   | (with_reducible exact ring_divMod.mono _ _ _)
   | (with_reducible exact LeO.refl _)
   | (with_reducible exact LeO.none _)
   | (with_reducible refine LeO.ite ?_ ?_)
   | (with_reducible refine LeO.bind ?_ (fun _ => ?_))
   | exact ih0 _ _ _ _ _ _
   | exact ring_divMod.mono _ _ _
   | exact LeO.none _
   | refine LeO.ite ?_ ?_
   | refine LeO.bind ?_ (fun _ => ?_)
theorem ring_mulMod.mono : ∀ a0 a1 a2 k, LeO (ring_mulMod.f k a0 a1 a2) (ring_mulMod.f (k + 1) a0 a1 a2) := by
 intro a0 a1 a2 k
 have ih0 := ring_mulMod.mono_l k
 unfold ring_mulMod.f
 repeat' first
   | (with_reducible exact ih0 _ _ _ _ _ _)
   | (with_reducible exact ring_divMod.mono _ _ _)
   | (with_reducible exact LeO.refl _)
   | (with_reducible exact LeO.none _)
   | (with_reducible refine LeO.ite ?_ ?_)
   | (with_reducible refine LeO.bind ?_ (fun _ => ?_))
   | exact ih0 _ _ _ _ _ _
   | exact ring_divMod.mono _ _ _
   | exact LeO.none _
   | refine LeO.ite ?_ ?_
   | refine LeO.bind ?_ (fun _ => ?_)
set_option maxHeartbeats 8000000 in
set_option maxRecDepth 100000 in
theorem ring_mulMod.calls (k : Nat) (a0 : Int) (a1 : Int) (a2 : Int) (r : Int) (w : World) (h : ring_mulMod.f k a0 a1 a2 = some r) :
  Calls Tryd.prog 46 #[.int .u64 a0, .int .u64 a1, .int .u64 a2] w fun e w' => e = .returned (.int .u64 r) ∧ Drawn0 w w' := by
 have H : ((ring_divMod.f k a0 a2).bind fun bt119 => ((ring_divMod.f k a1 a2).bind fun bt121 => ((ring_Degree.f a2).bind fun t123 => (ring_mulMod.l0 k bt119.2 bt121.2 a2 t123 0 (wrap64 (t123 - 1)))))) = some r := h
 clear h
 replace H := Option.bind_eq_some_iff.mp H
 obtain ⟨⟨t119, t120⟩, A40, H⟩ := H
 replace H : ((ring_divMod.f k a1 a2).bind fun bt121 => ((ring_Degree.f a2).bind fun t123 => (ring_mulMod.l0 k t120 bt121.2 a2 t123 0 (wrap64 (t123 - 1))))) = some r := H
 have A4 := Aside0.mk A40
 clear A40
 replace H := Option.bind_eq_some_iff.mp H
 obtain ⟨⟨t121, t122⟩, A50, H⟩ := H
 replace H : ((ring_Degree.f a2).bind fun t123 => (ring_mulMod.l0 k t120 t122 a2 t123 0 (wrap64 (t123 - 1)))) = some r := H
 have A5 := Aside0.mk A50
 clear A50
 replace H := Option.bind_eq_some_iff.mp H
 obtain ⟨t123, A60, H⟩ := H
 replace H : (ring_mulMod.l0 k t120 t122 a2 t123 0 (wrap64 (t123 - 1))) = some r := H
 have A6 := Aside0.mk A60
 clear A60
 have H' := Aside0.mk H
 clear H
 go_enter Tryd.func46, Tryd.ntmps46
 go_wp2_with (first | ((with_reducible refine gate_callee (f := 28) rfl ?_); refine goesL_ (some 13) rfl rfl Tryd.func28 (by kernel_rfl) rfl #[.int .u64 a0, .int .u64 a2] rfl (by (try simp only [List.map_toArray, List.map_cons, List.map_nil]); first | done | rfl | (simp only [tb_wrap8]; done) | (simp only [tb_wrap8]; rfl) | (simp only [List.length_drop, List.length_take]; rfl)) ?_; (with_reducible refine (ring_divMod.calls k a0 a2 t119 t120 _ A4.out).mono ?_); rintro e w' ⟨rfl, ⟨nd, rfl⟩⟩; refine ⟨_, rfl, ?_⟩) | ((with_reducible refine gate_callee (f := 28) rfl ?_); refine goesL_ (some 19) rfl rfl Tryd.func28 (by kernel_rfl) rfl #[.int .u64 a1, .int .u64 a2] rfl (by (try simp only [List.map_toArray, List.map_cons, List.map_nil]); first | done | rfl | (simp only [tb_wrap8]; done) | (simp only [tb_wrap8]; rfl) | (simp only [List.length_drop, List.length_take]; rfl)) ?_; (with_reducible refine (ring_divMod.calls k a1 a2 t121 t122 _ A5.out).mono ?_); rintro e w' ⟨rfl, ⟨nd, rfl⟩⟩; refine ⟨_, rfl, ?_⟩) | ((with_reducible refine gate_callee (f := 17) rfl ?_); refine goesL_ (some 23) rfl rfl Tryd.func17 (by kernel_rfl) rfl #[.int .u64 a2] rfl (by (try simp only [List.map_toArray, List.map_cons, List.map_nil]); first | done | rfl | (simp only [tb_wrap8]; done) | (simp only [tb_wrap8]; rfl) | (simp only [List.length_drop, List.length_take]; rfl)) ?_; (with_reducible refine (ring_Degree.calls a2 t123 _ A6.out).mono ?_); rintro e w' ⟨rfl, ⟨nd, rfl⟩⟩; refine ⟨_, rfl, ?_⟩))
 go_loopg [8, 9] k (fun kq v8 v9 w' => ∃ (x8_1 : Int) (x9_1 : Int), v8 = .int .u64 x8_1 ∧ v9 = .int .i64 x9_1 ∧ Aside0 (ring_mulMod.l0 kq t120 t122 a2 t123 x8_1 x9_1 = some r) ∧ Aside0 (kq ≤ k) ∧ Drawn0 w w')
 case atStart => exact ⟨(0), (wrap64 (t123 - 1)), (by first | rfl | (simp; done) | (simp [*]; done)), (by first | rfl | (simp; done) | (simp [*]; done)), H', ⟨Nat.le_refl _⟩, by repeat (first | exact Drawn0.refl _ | apply Drawn0.step)⟩
 case round =>
  clear H'
  try clear c1
  try clear c2
  try clear p2
  try clear c4
  try clear p6
  obtain ⟨x8_1, x9_1, rfl, rfl, HA, HK1, ⟨m1, rfl⟩⟩ := hrel
  cases gk with
  | zero => exact absurd HA.out (by simp [ring_mulMod.l0])
  | succ k1 =>
   have H := HA.out
   clear HA
   simp only [ring_mulMod.l0] at H
   by_cases c7 : x9_1 ≥ 0
   ·rw [if_pos c7] at H
    have c7b0 : decide (0 ≤ x9_1) = true := decide_eq_true c7
    clear c7
    by_cases c8 : 0 ≤ t123
    ·rw [if_pos c8] at H
     have c8b0 := eq_true c8
     have c8b1 : decide (0 ≤ t123) = true := decide_eq_true c8
     clear c8
     obtain ⟨ji9, hji9⟩ : ∃ j_ : Int, (shr .u64 (IntKind.u64.wrap (x8_1 * 2)) t123) = j_ := ⟨_, rfl⟩
     replace H : (if (Go.bits .and .u64 (ji9) 1) = 1 then (if 0 ≤ x9_1 then (if (Go.bits .and .u64 (shr .u64 t122 x9_1) 1) = 1 then (ring_mulMod.l0 k1 t120 t122 a2 t123 (Go.bits .xor .u64 (Go.bits .xor .u64 (IntKind.u64.wrap (x8_1 * 2)) a2) t120) (wrap64 (x9_1 - 1))) else (ring_mulMod.l0 k1 t120 t122 a2 t123 (Go.bits .xor .u64 (IntKind.u64.wrap (x8_1 * 2)) a2) (wrap64 (x9_1 - 1)))) else (none)) else (if 0 ≤ x9_1 then (if (Go.bits .and .u64 (shr .u64 t122 x9_1) 1) = 1 then (ring_mulMod.l0 k1 t120 t122 a2 t123 (Go.bits .xor .u64 (IntKind.u64.wrap (x8_1 * 2)) t120) (wrap64 (x9_1 - 1))) else (ring_mulMod.l0 k1 t120 t122 a2 t123 (IntKind.u64.wrap (x8_1 * 2)) (wrap64 (x9_1 - 1)))) else (none))) = some r := by first | (rw [hji9] at H; exact H) | (simp only [hji9] at H ⊢; exact H)
     have hji9_ : ((IntKind.u64.wrap (x8_1 * 2)) / 2 ^ min t123.toNat 64) = ji9 := hji9
     have hji9z : t123 ≤ 64 → ((IntKind.u64.wrap (x8_1 * 2)) / 2 ^ t123.toNat) = ji9 := shr_small hji9
     by_cases c10 : (Go.bits .and .u64 (ji9) 1) = 1
     ·rw [if_pos c10] at H
      have c10b0 : ((Go.bits .and .u64 (ji9) 1) == 1) = true := beq_iff_eq.mpr c10
      have c10b1 : ((Go.bits .and .u64 (ji9) 1) != 1) = false := bne_eq_false_iff_eq.mpr c10
      clear c10
      by_cases c11 : 0 ≤ x9_1
      ·rw [if_pos c11] at H
       have c11b0 := eq_true c11
       have c11b1 : decide (0 ≤ x9_1) = true := decide_eq_true c11
       clear c11
       obtain ⟨ji12, hji12⟩ : ∃ j_ : Int, (shr .u64 t122 x9_1) = j_ := ⟨_, rfl⟩
       replace H : (if (Go.bits .and .u64 (ji12) 1) = 1 then (ring_mulMod.l0 k1 t120 t122 a2 t123 (Go.bits .xor .u64 (Go.bits .xor .u64 (IntKind.u64.wrap (x8_1 * 2)) a2) t120) (wrap64 (x9_1 - 1))) else (ring_mulMod.l0 k1 t120 t122 a2 t123 (Go.bits .xor .u64 (IntKind.u64.wrap (x8_1 * 2)) a2) (wrap64 (x9_1 - 1)))) = some r := by first | (rw [hji12] at H; exact H) | (simp only [hji12] at H ⊢; exact H)
       have hji12_ : (t122 / 2 ^ min x9_1.toNat 64) = ji12 := hji12
       have hji12z : x9_1 ≤ 64 → (t122 / 2 ^ x9_1.toNat) = ji12 := shr_small hji12
       by_cases c13 : (Go.bits .and .u64 (ji12) 1) = 1
       ·rw [if_pos c13] at H
        have c13b0 : ((Go.bits .and .u64 (ji12) 1) == 1) = true := beq_iff_eq.mpr c13
        have c13b1 : ((Go.bits .and .u64 (ji12) 1) != 1) = false := bne_eq_false_iff_eq.mpr c13
        clear c13
        have H' := Aside0.mk H
        clear H
        go_wp2
        go_roundg k1
        case measure => have := HK1.out; omega
        case rel => exact ⟨(Go.bits .xor .u64 (Go.bits .xor .u64 (IntKind.u64.wrap (x8_1 * 2)) a2) t120), (wrap64 (x9_1 - 1)), (by first | rfl | (simp; done) | (simp [*]; done)), (by first | rfl | (simp; done) | (simp [*]; done)), H', ⟨by have := HK1.out; omega⟩, by repeat (first | exact Drawn0.refl _ | apply Drawn0.step)⟩
       ·rw [if_neg c13] at H
        have c13b0 : ((Go.bits .and .u64 (ji12) 1) == 1) = false := beq_eq_false_iff_ne.mpr c13
        have c13b1 : ((Go.bits .and .u64 (ji12) 1) != 1) = true := bne_iff_ne.mpr c13
        have H' := Aside0.mk H
        clear H
        go_wp2
        go_roundg k1
        case measure => have := HK1.out; omega
        case rel => exact ⟨(Go.bits .xor .u64 (IntKind.u64.wrap (x8_1 * 2)) a2), (wrap64 (x9_1 - 1)), (by first | rfl | (simp; done) | (simp [*]; done)), (by first | rfl | (simp; done) | (simp [*]; done)), H', ⟨by have := HK1.out; omega⟩, by repeat (first | exact Drawn0.refl _ | apply Drawn0.step)⟩
      ·rw [if_neg c11] at H
       exact absurd H (by simp)
     ·rw [if_neg c10] at H
      have c10b0 : ((Go.bits .and .u64 (ji9) 1) == 1) = false := beq_eq_false_iff_ne.mpr c10
      have c10b1 : ((Go.bits .and .u64 (ji9) 1) != 1) = true := bne_iff_ne.mpr c10
      by_cases c14 : 0 ≤ x9_1
      ·rw [if_pos c14] at H
       have c14b0 := eq_true c14
       have c14b1 : decide (0 ≤ x9_1) = true := decide_eq_true c14
       clear c14
       obtain ⟨ji15, hji15⟩ : ∃ j_ : Int, (shr .u64 t122 x9_1) = j_ := ⟨_, rfl⟩
       replace H : (if (Go.bits .and .u64 (ji15) 1) = 1 then (ring_mulMod.l0 k1 t120 t122 a2 t123 (Go.bits .xor .u64 (IntKind.u64.wrap (x8_1 * 2)) t120) (wrap64 (x9_1 - 1))) else (ring_mulMod.l0 k1 t120 t122 a2 t123 (IntKind.u64.wrap (x8_1 * 2)) (wrap64 (x9_1 - 1)))) = some r := by first | (rw [hji15] at H; exact H) | (simp only [hji15] at H ⊢; exact H)
       have hji15_ : (t122 / 2 ^ min x9_1.toNat 64) = ji15 := hji15
       have hji15z : x9_1 ≤ 64 → (t122 / 2 ^ x9_1.toNat) = ji15 := shr_small hji15
       by_cases c16 : (Go.bits .and .u64 (ji15) 1) = 1
       ·rw [if_pos c16] at H
        have c16b0 : ((Go.bits .and .u64 (ji15) 1) == 1) = true := beq_iff_eq.mpr c16
        have c16b1 : ((Go.bits .and .u64 (ji15) 1) != 1) = false := bne_eq_false_iff_eq.mpr c16
        clear c16
        have H' := Aside0.mk H
        clear H
        go_wp2
        go_roundg k1
        case measure => have := HK1.out; omega
        case rel => exact ⟨(Go.bits .xor .u64 (IntKind.u64.wrap (x8_1 * 2)) t120), (wrap64 (x9_1 - 1)), (by first | rfl | (simp; done) | (simp [*]; done)), (by first | rfl | (simp; done) | (simp [*]; done)), H', ⟨by have := HK1.out; omega⟩, by repeat (first | exact Drawn0.refl _ | apply Drawn0.step)⟩
       ·rw [if_neg c16] at H
        have c16b0 : ((Go.bits .and .u64 (ji15) 1) == 1) = false := beq_eq_false_iff_ne.mpr c16
        have c16b1 : ((Go.bits .and .u64 (ji15) 1) != 1) = true := bne_iff_ne.mpr c16
        have H' := Aside0.mk H
        clear H
        go_wp2
        go_roundg k1
        case measure => have := HK1.out; omega
        case rel => exact ⟨(IntKind.u64.wrap (x8_1 * 2)), (wrap64 (x9_1 - 1)), (by first | rfl | (simp; done) | (simp [*]; done)), (by first | rfl | (simp; done) | (simp [*]; done)), H', ⟨by have := HK1.out; omega⟩, by repeat (first | exact Drawn0.refl _ | apply Drawn0.step)⟩
      ·rw [if_neg c14] at H
       exact absurd H (by simp)
    ·rw [if_neg c8] at H
     exact absurd H (by simp)
   ·rw [if_neg c7] at H
    have c7b0 : decide (0 ≤ x9_1) = false := decide_eq_false c7
    clear c7
    obtain rfl := Option.some.inj H
    go_wp2
    go_ret
    exact ⟨by first | rfl | (simp; done) | (simp [*]; done), by repeat (first | exact Drawn0.refl _ | apply Drawn0.step)⟩

/-! ### ring_MulMod: function 23 -/
def ring_MulMod.f (k : Nat) (a0 : Int) (a1 : Int) (a2 : Int) : Option (Int × Int) := (ring_isModulus.f a2 32).bind fun t124 => (if t124 = true then ((ring_mulMod.f k a0 a1 a2).bind fun t125 => (some (t125, 0))) else (some (0, 11)))
theorem ring_MulMod.mono : ∀ a0 a1 a2 k, LeO (ring_MulMod.f k a0 a1 a2) (ring_MulMod.f (k + 1) a0 a1 a2) := by
 intro a0 a1 a2 k
 unfold ring_MulMod.f
 repeat' first
   | (with_reducible exact ring_mulMod.mono _ _ _ _)
   | (with_reducible exact LeO.refl _)
   | (with_reducible exact LeO.none _)
   | (with_reducible refine LeO.ite ?_ ?_)
   | (with_reducible refine LeO.bind ?_ (fun _ => ?_))
   | exact ring_mulMod.mono _ _ _ _
   | exact LeO.none _
   | refine LeO.ite ?_ ?_
   | refine LeO.bind ?_ (fun _ => ?_)
set_option maxHeartbeats 8000000 in
set_option maxRecDepth 100000 in
theorem ring_MulMod.calls (k : Nat) (a0 : Int) (a1 : Int) (a2 : Int) (r1 : Int) (r2 : Int) (w : World) (h : ring_MulMod.f k a0 a1 a2 = some (r1, r2)) :
  Calls Tryd.prog 23 #[.int .u64 a0, .int .u64 a1, .int .u64 a2] w fun e w' => e = .returned (.tuple #[.int .u64 r1, .int .i64 r2]) ∧ Drawn0 w w' := by
 have H : ((ring_isModulus.f a2 32).bind fun t124 => (if t124 = true then ((ring_mulMod.f k a0 a1 a2).bind fun t125 => (some (t125, 0))) else (some (0, 11)))) = some (r1, r2) := h
 clear h
 replace H := Option.bind_eq_some_iff.mp H
 obtain ⟨t124, A40, H⟩ := H
 replace H : (if t124 = true then ((ring_mulMod.f k a0 a1 a2).bind fun t125 => (some (t125, 0))) else (some (0, 11))) = some (r1, r2) := H
 have A4 := Aside0.mk A40
 clear A40
 by_cases c5 : t124 = true
 ·subst c5
  have H1 : ((ring_mulMod.f k a0 a1 a2).bind fun t125 => (some (t125, 0))) = some (r1, r2) := by rw [if_pos rfl] at H; exact H
  clear H
  have H := H1
  clear H1
  replace H := Option.bind_eq_some_iff.mp H
  obtain ⟨t125, A60, H⟩ := H
  replace H : (some (t125, 0)) = some (r1, r2) := H
  have A6 := Aside0.mk A60
  clear A60
  simp only [Option.some.injEq, Prod.mk.injEq] at H
  obtain ⟨rfl, rfl⟩ := H
  go_enter Tryd.func23, Tryd.ntmps23
  go_wp2_with (first | ((with_reducible refine gate_callee (f := 45) rfl ?_); refine goesL_ (some 9) rfl rfl Tryd.func45 (by kernel_rfl) rfl #[.int .u64 a2, .int .i64 32] rfl (by (try simp only [List.map_toArray, List.map_cons, List.map_nil]); first | done | rfl | (simp only [tb_wrap8]; done) | (simp only [tb_wrap8]; rfl) | (simp only [List.length_drop, List.length_take]; rfl)) ?_; (with_reducible refine (ring_isModulus.calls a2 32 true _ A4.out).mono ?_); rintro e w' ⟨rfl, ⟨nd, rfl⟩⟩; refine ⟨_, rfl, ?_⟩) | ((with_reducible refine gate_callee (f := 46) rfl ?_); refine goesL_ (some 14) rfl rfl Tryd.func46 (by kernel_rfl) rfl #[.int .u64 a0, .int .u64 a1, .int .u64 a2] rfl (by (try simp only [List.map_toArray, List.map_cons, List.map_nil]); first | done | rfl | (simp only [tb_wrap8]; done) | (simp only [tb_wrap8]; rfl) | (simp only [List.length_drop, List.length_take]; rfl)) ?_; (with_reducible refine (ring_mulMod.calls k a0 a1 a2 t125 _ A6.out).mono ?_); rintro e w' ⟨rfl, ⟨nd, rfl⟩⟩; refine ⟨_, rfl, ?_⟩))
  go_ret2
  exact ⟨by first | rfl | (simp; done) | (simp [*]; done), by repeat (first | exact Drawn0.refl _ | apply Drawn0.step)⟩
 ·replace c5 := Bool.eq_false_iff.mpr c5
  subst c5
  have H1 : (some (0, 11)) = some (r1, r2) := by rw [if_neg (show ¬ (false = true) by decide)] at H; exact H
  clear H
  have H := H1
  clear H1
  simp only [Option.some.injEq, Prod.mk.injEq] at H
  obtain ⟨rfl, rfl⟩ := H
  go_enter Tryd.func23, Tryd.ntmps23
  go_wp2_with (first | ((with_reducible refine gate_callee (f := 45) rfl ?_); refine goesL_ (some 9) rfl rfl Tryd.func45 (by kernel_rfl) rfl #[.int .u64 a2, .int .i64 32] rfl (by (try simp only [List.map_toArray, List.map_cons, List.map_nil]); first | done | rfl | (simp only [tb_wrap8]; done) | (simp only [tb_wrap8]; rfl) | (simp only [List.length_drop, List.length_take]; rfl)) ?_; (with_reducible refine (ring_isModulus.calls a2 32 false _ A4.out).mono ?_); rintro e w' ⟨rfl, ⟨nd, rfl⟩⟩; refine ⟨_, rfl, ?_⟩))
  go_ret2
  exact ⟨by first | rfl | (simp; done) | (simp [*]; done), by repeat (first | exact Drawn0.refl _ | apply Drawn0.step)⟩

end Go.Proofs.YthldahaimcdejaaDoor.A
end
section
-- Printed for this claim by mp.py, a program of its prover, through the kit's print. Lean checks it.
namespace Go.Proofs.YthldahaimcdejaaDoor.A
open Go.RowKit Go.Proofs.YthldahaimcdejaaDoorW.PrintWords Go.Proofs.YthldahaimcdejaaDoorW.PrintLast Go.Proofs.YthldahaimcdejaaDoorW.PrintMore
attribute [local go_sem] max2_int min2_int max_two min_two max_three min_three max_four min_four   -- for this text's walks alone
set_option linter.unusedVariables false
set_option linter.unusedSimpArgs false

/-! ### ring_PowMod: function 30 -/
def ring_PowMod.l0 : Nat → Int → Int → Int → Int → Option (Int × Int)
 | 0, _, _, _, _ => none
 | k + 1, x0, x1, x2, x8 => if x1 > 0 then (if (Go.bits .and .u64 x1 1) = 1 then ((ring_mulMod.f k x8 x0 x2).bind fun t127 => ((ring_mulMod.f k x0 x0 x2).bind fun t128 => (ring_PowMod.l0 k t128 (x1 / 2) x2 t127))) else ((ring_mulMod.f k x0 x0 x2).bind fun t129 => (ring_PowMod.l0 k t129 (x1 / 2) x2 x8))) else (some (x8, 0))
def ring_PowMod.f (k : Nat) (a0 : Int) (a1 : Int) (a2 : Int) : Option (Int × Int) := (ring_isModulus.f a2 32).bind fun t126 => (if t126 = true then (ring_PowMod.l0 k a0 a1 a2 1) else (some (0, 11)))
theorem ring_PowMod.mono_l : ∀ k, (∀ y0 y1 y2 y3, LeO (ring_PowMod.l0 k y0 y1 y2 y3) (ring_PowMod.l0 (k + 1) y0 y1 y2 y3))
 | 0 => fun _ _ _ _ r h => by simp [ring_PowMod.l0] at h
 | k + 1 => by
  have ih0 := ring_PowMod.mono_l k
  ·intro y0 y1 y2 y3
   unfold ring_PowMod.l0
   repeat' first
   | (with_reducible exact ih0 _ _ _ _)
   | (with_reducible exact ring_mulMod.mono _ _ _ _)
   | (with_reducible exact LeO.refl _)
   | (with_reducible exact LeO.none _)
   | (with_reducible refine LeO.ite ?_ ?_)
   | (with_reducible refine LeO.bind ?_ (fun _ => ?_))
   | exact ih0 _ _ _ _
   | exact ring_mulMod.mono _ _ _ _
   | exact LeO.none _
   | refine LeO.ite ?_ ?_
   | refine LeO.bind ?_ (fun _ => ?_)
theorem ring_PowMod.mono : ∀ a0 a1 a2 k, LeO (ring_PowMod.f k a0 a1 a2) (ring_PowMod.f (k + 1) a0 a1 a2) := by
 intro a0 a1 a2 k
 have ih0 := ring_PowMod.mono_l k
 unfold ring_PowMod.f
 repeat' first
   | (with_reducible exact ih0 _ _ _ _)
   | (with_reducible exact ring_mulMod.mono _ _ _ _)
   | (with_reducible exact LeO.refl _)
   | (with_reducible exact LeO.none _)
   | (with_reducible refine LeO.ite ?_ ?_)
   | (with_reducible refine LeO.bind ?_ (fun _ => ?_))
   | exact ih0 _ _ _ _
   | exact ring_mulMod.mono _ _ _ _
   | exact LeO.none _
   | refine LeO.ite ?_ ?_
   | refine LeO.bind ?_ (fun _ => ?_)
set_option maxHeartbeats 8000000 in
set_option maxRecDepth 100000 in
theorem ring_PowMod.calls (k : Nat) (a0 : Int) (a1 : Int) (a2 : Int) (r1 : Int) (r2 : Int) (w : World) (h : ring_PowMod.f k a0 a1 a2 = some (r1, r2)) :
  Calls Tryd.prog 30 #[.int .u64 a0, .int .u64 a1, .int .u64 a2] w fun e w' => e = .returned (.tuple #[.int .u64 r1, .int .i64 r2]) ∧ Drawn0 w w' := by
 have H : ((ring_isModulus.f a2 32).bind fun t126 => (if t126 = true then (ring_PowMod.l0 k a0 a1 a2 1) else (some (0, 11)))) = some (r1, r2) := h
 clear h
 replace H := Option.bind_eq_some_iff.mp H
 obtain ⟨t126, A40, H⟩ := H
 replace H : (if t126 = true then (ring_PowMod.l0 k a0 a1 a2 1) else (some (0, 11))) = some (r1, r2) := H
 have A4 := Aside0.mk A40
 clear A40
 by_cases c5 : t126 = true
 ·subst c5
  have H1 : (ring_PowMod.l0 k a0 a1 a2 1) = some (r1, r2) := by rw [if_pos rfl] at H; exact H
  clear H
  have H := H1
  clear H1
  have H' := Aside0.mk H
  clear H
  go_enter Tryd.func30, Tryd.ntmps30
  go_wp2_with (first | ((with_reducible refine gate_callee (f := 45) rfl ?_); refine goesL_ (some 10) rfl rfl Tryd.func45 (by kernel_rfl) rfl #[.int .u64 a2, .int .i64 32] rfl (by (try simp only [List.map_toArray, List.map_cons, List.map_nil]); first | done | rfl | (simp only [tb_wrap8]; done) | (simp only [tb_wrap8]; rfl) | (simp only [List.length_drop, List.length_take]; rfl)) ?_; (with_reducible refine (ring_isModulus.calls a2 32 true _ A4.out).mono ?_); rintro e w' ⟨rfl, ⟨nd, rfl⟩⟩; refine ⟨_, rfl, ?_⟩))
  go_loopg [0, 1, 8] k (fun kq v0 v1 v8 w' => ∃ (x0_1 : Int) (x1_1 : Int) (x8_1 : Int), v0 = .int .u64 x0_1 ∧ v1 = .int .u64 x1_1 ∧ v8 = .int .u64 x8_1 ∧ Aside0 (ring_PowMod.l0 kq x0_1 x1_1 a2 x8_1 = some (r1, r2)) ∧ Aside0 (kq ≤ k) ∧ Drawn0 w w')
  case atStart => exact ⟨(a0), (a1), (1), (by first | rfl | (simp; done) | (simp [*]; done)), (by first | rfl | (simp; done) | (simp [*]; done)), (by first | rfl | (simp; done) | (simp [*]; done)), H', ⟨Nat.le_refl _⟩, by repeat (first | exact Drawn0.refl _ | apply Drawn0.step)⟩
  case round =>
   clear H'
   try clear p2
   try clear c3
   try clear c4
   try clear c5
   obtain ⟨x0_1, x1_1, x8_1, rfl, rfl, rfl, HA, HK1, ⟨m1, rfl⟩⟩ := hrel
   cases gk with
   | zero => exact absurd HA.out (by simp [ring_PowMod.l0])
   | succ k1 =>
    have H := HA.out
    clear HA
    simp only [ring_PowMod.l0] at H
    by_cases c6 : x1_1 > 0
    ·rw [if_pos c6] at H
     have c6b0 : decide (0 < x1_1) = true := decide_eq_true c6
     clear c6
     by_cases c7 : (Go.bits .and .u64 x1_1 1) = 1
     ·rw [if_pos c7] at H
      have c7b0 : ((Go.bits .and .u64 x1_1 1) == 1) = true := beq_iff_eq.mpr c7
      have c7b1 : ((Go.bits .and .u64 x1_1 1) != 1) = false := bne_eq_false_iff_eq.mpr c7
      clear c7
      replace H := Option.bind_eq_some_iff.mp H
      obtain ⟨t127, A80, H⟩ := H
      replace H : ((ring_mulMod.f k1 x0_1 x0_1 a2).bind fun t128 => (ring_PowMod.l0 k1 t128 (x1_1 / 2) a2 t127)) = some (r1, r2) := H
      have A8 := Aside0.mk A80
      clear A80
      replace H := Option.bind_eq_some_iff.mp H
      obtain ⟨t128, A90, H⟩ := H
      replace H : (ring_PowMod.l0 k1 t128 (x1_1 / 2) a2 t127) = some (r1, r2) := H
      have A9 := Aside0.mk A90
      clear A90
      have H' := Aside0.mk H
      clear H
      go_wp2_with (first | ((with_reducible refine gate_callee (f := 46) rfl ?_); refine goesL_ (some 22) rfl rfl Tryd.func46 (by kernel_rfl) rfl #[.int .u64 x8_1, .int .u64 x0_1, .int .u64 a2] rfl (by (try simp only [List.map_toArray, List.map_cons, List.map_nil]); first | done | rfl | (simp only [tb_wrap8]; done) | (simp only [tb_wrap8]; rfl) | (simp only [List.length_drop, List.length_take]; rfl)) ?_; (with_reducible refine (ring_mulMod.calls k1 x8_1 x0_1 a2 t127 _ A8.out).mono ?_); rintro e w' ⟨rfl, ⟨nd, rfl⟩⟩; refine ⟨_, rfl, ?_⟩) | ((with_reducible refine gate_callee (f := 46) rfl ?_); refine goesL_ (some 26) rfl rfl Tryd.func46 (by kernel_rfl) rfl #[.int .u64 x0_1, .int .u64 x0_1, .int .u64 a2] rfl (by (try simp only [List.map_toArray, List.map_cons, List.map_nil]); first | done | rfl | (simp only [tb_wrap8]; done) | (simp only [tb_wrap8]; rfl) | (simp only [List.length_drop, List.length_take]; rfl)) ?_; (with_reducible refine (ring_mulMod.calls k1 x0_1 x0_1 a2 t128 _ A9.out).mono ?_); rintro e w' ⟨rfl, ⟨nd, rfl⟩⟩; refine ⟨_, rfl, ?_⟩))
      go_roundg k1
      case measure => have := HK1.out; omega
      case rel => exact ⟨(t128), (x1_1 / 2), (t127), (by first | rfl | (simp; done) | (simp [*]; done)), (by first | rfl | (simp; done) | (simp [*]; done)), (by first | rfl | (simp; done) | (simp [*]; done)), H', ⟨by have := HK1.out; omega⟩, by repeat (first | exact Drawn0.refl _ | apply Drawn0.step)⟩
     ·rw [if_neg c7] at H
      have c7b0 : ((Go.bits .and .u64 x1_1 1) == 1) = false := beq_eq_false_iff_ne.mpr c7
      have c7b1 : ((Go.bits .and .u64 x1_1 1) != 1) = true := bne_iff_ne.mpr c7
      replace H := Option.bind_eq_some_iff.mp H
      obtain ⟨t129, A100, H⟩ := H
      replace H : (ring_PowMod.l0 k1 t129 (x1_1 / 2) a2 x8_1) = some (r1, r2) := H
      have A10 := Aside0.mk A100
      clear A100
      have H' := Aside0.mk H
      clear H
      go_wp2_with (first | ((with_reducible refine gate_callee (f := 46) rfl ?_); refine goesL_ (some 26) rfl rfl Tryd.func46 (by kernel_rfl) rfl #[.int .u64 x0_1, .int .u64 x0_1, .int .u64 a2] rfl (by (try simp only [List.map_toArray, List.map_cons, List.map_nil]); first | done | rfl | (simp only [tb_wrap8]; done) | (simp only [tb_wrap8]; rfl) | (simp only [List.length_drop, List.length_take]; rfl)) ?_; (with_reducible refine (ring_mulMod.calls k1 x0_1 x0_1 a2 t129 _ A10.out).mono ?_); rintro e w' ⟨rfl, ⟨nd, rfl⟩⟩; refine ⟨_, rfl, ?_⟩))
      go_roundg k1
      case measure => have := HK1.out; omega
      case rel => exact ⟨(t129), (x1_1 / 2), (x8_1), (by first | rfl | (simp; done) | (simp [*]; done)), (by first | rfl | (simp; done) | (simp [*]; done)), (by first | rfl | (simp; done) | (simp [*]; done)), H', ⟨by have := HK1.out; omega⟩, by repeat (first | exact Drawn0.refl _ | apply Drawn0.step)⟩
    ·rw [if_neg c6] at H
     have c6b0 : decide (0 < x1_1) = false := decide_eq_false c6
     clear c6
     simp only [Option.some.injEq, Prod.mk.injEq] at H
     obtain ⟨rfl, rfl⟩ := H
     go_wp2
     go_ret2
     exact ⟨by first | rfl | (simp; done) | (simp [*]; done), by repeat (first | exact Drawn0.refl _ | apply Drawn0.step)⟩
 ·replace c5 := Bool.eq_false_iff.mpr c5
  subst c5
  have H1 : (some (0, 11)) = some (r1, r2) := by rw [if_neg (show ¬ (false = true) by decide)] at H; exact H
  clear H
  have H := H1
  clear H1
  simp only [Option.some.injEq, Prod.mk.injEq] at H
  obtain ⟨rfl, rfl⟩ := H
  go_enter Tryd.func30, Tryd.ntmps30
  go_wp2_with (first | ((with_reducible refine gate_callee (f := 45) rfl ?_); refine goesL_ (some 10) rfl rfl Tryd.func45 (by kernel_rfl) rfl #[.int .u64 a2, .int .i64 32] rfl (by (try simp only [List.map_toArray, List.map_cons, List.map_nil]); first | done | rfl | (simp only [tb_wrap8]; done) | (simp only [tb_wrap8]; rfl) | (simp only [List.length_drop, List.length_take]; rfl)) ?_; (with_reducible refine (ring_isModulus.calls a2 32 false _ A4.out).mono ?_); rintro e w' ⟨rfl, ⟨nd, rfl⟩⟩; refine ⟨_, rfl, ?_⟩))
  go_ret2
  exact ⟨by first | rfl | (simp; done) | (simp [*]; done), by repeat (first | exact Drawn0.refl _ | apply Drawn0.step)⟩

/-! ### ring_InvMod: function 32 -/
def ring_InvMod.l0 : Nat → Int → Int → Int → Int → Int → Option (Int × Int)
 | 0, _, _, _, _, _ => none
 | k + 1, x1, x7, x8, x9, x10 => if x7 = 0 then (if x8 = 1 then ((ring_divMod.f k x9 x1).bind fun bt133 => (some (bt133.2, 0))) else (some (0, 12))) else ((ring_divMod.f k x8 x7).bind fun bt135 => ((ring_mulMod.f k bt135.1 x10 x1).bind fun t137 => (ring_InvMod.l0 k x1 bt135.2 x7 x10 (Go.bits .xor .u64 x9 t137))))
def ring_InvMod.f (k : Nat) (a0 : Int) (a1 : Int) : Option (Int × Int) := (ring_isModulus.f a1 32).bind fun t130 => (if t130 = true then ((ring_divMod.f k a0 a1).bind fun bt131 => (ring_InvMod.l0 k a1 bt131.2 a1 0 1)) else (some (0, 11)))
theorem ring_InvMod.mono_l : ∀ k, (∀ y0 y1 y2 y3 y4, LeO (ring_InvMod.l0 k y0 y1 y2 y3 y4) (ring_InvMod.l0 (k + 1) y0 y1 y2 y3 y4))
 | 0 => fun _ _ _ _ _ r h => by simp [ring_InvMod.l0] at h
 | k + 1 => by
  have ih0 := ring_InvMod.mono_l k
  ·intro y0 y1 y2 y3 y4
   unfold ring_InvMod.l0
   repeat' first
   | (with_reducible exact ih0 _ _ _ _ _)
   | (with_reducible exact ring_divMod.mono _ _ _)
   | (with_reducible exact ring_mulMod.mono _ _ _ _)
   | (with_reducible exact LeO.refl _)
   | (with_reducible exact LeO.none _)
   | (with_reducible refine LeO.ite ?_ ?_)
   | (with_reducible refine LeO.bind ?_ (fun _ => ?_))
   | exact ih0 _ _ _ _ _
   | exact ring_divMod.mono _ _ _
   | exact ring_mulMod.mono _ _ _ _
   | exact LeO.none _
   | refine LeO.ite ?_ ?_
   | refine LeO.bind ?_ (fun _ => ?_)
theorem ring_InvMod.mono : ∀ a0 a1 k, LeO (ring_InvMod.f k a0 a1) (ring_InvMod.f (k + 1) a0 a1) := by
 intro a0 a1 k
 have ih0 := ring_InvMod.mono_l k
 unfold ring_InvMod.f
 repeat' first
   | (with_reducible exact ih0 _ _ _ _ _)
   | (with_reducible exact ring_divMod.mono _ _ _)
   | (with_reducible exact ring_mulMod.mono _ _ _ _)
   | (with_reducible exact LeO.refl _)
   | (with_reducible exact LeO.none _)
   | (with_reducible refine LeO.ite ?_ ?_)
   | (with_reducible refine LeO.bind ?_ (fun _ => ?_))
   | exact ih0 _ _ _ _ _
   | exact ring_divMod.mono _ _ _
   | exact ring_mulMod.mono _ _ _ _
   | exact LeO.none _
   | refine LeO.ite ?_ ?_
   | refine LeO.bind ?_ (fun _ => ?_)
set_option maxHeartbeats 8000000 in
set_option maxRecDepth 100000 in
theorem ring_InvMod.calls (k : Nat) (a0 : Int) (a1 : Int) (r1 : Int) (r2 : Int) (w : World) (h : ring_InvMod.f k a0 a1 = some (r1, r2)) :
  Calls Tryd.prog 32 #[.int .u64 a0, .int .u64 a1] w fun e w' => e = .returned (.tuple #[.int .u64 r1, .int .i64 r2]) ∧ Drawn0 w w' := by
 have H : ((ring_isModulus.f a1 32).bind fun t130 => (if t130 = true then ((ring_divMod.f k a0 a1).bind fun bt131 => (ring_InvMod.l0 k a1 bt131.2 a1 0 1)) else (some (0, 11)))) = some (r1, r2) := h
 clear h
 replace H := Option.bind_eq_some_iff.mp H
 obtain ⟨t130, A30, H⟩ := H
 replace H : (if t130 = true then ((ring_divMod.f k a0 a1).bind fun bt131 => (ring_InvMod.l0 k a1 bt131.2 a1 0 1)) else (some (0, 11))) = some (r1, r2) := H
 have A3 := Aside0.mk A30
 clear A30
 by_cases c4 : t130 = true
 ·subst c4
  have H1 : ((ring_divMod.f k a0 a1).bind fun bt131 => (ring_InvMod.l0 k a1 bt131.2 a1 0 1)) = some (r1, r2) := by rw [if_pos rfl] at H; exact H
  clear H
  have H := H1
  clear H1
  replace H := Option.bind_eq_some_iff.mp H
  obtain ⟨⟨t131, t132⟩, A50, H⟩ := H
  replace H : (ring_InvMod.l0 k a1 t132 a1 0 1) = some (r1, r2) := H
  have A5 := Aside0.mk A50
  clear A50
  have H' := Aside0.mk H
  clear H
  go_enter Tryd.func32, Tryd.ntmps32
  go_wp2_with (first | ((with_reducible refine gate_callee (f := 45) rfl ?_); refine goesL_ (some 14) rfl rfl Tryd.func45 (by kernel_rfl) rfl #[.int .u64 a1, .int .i64 32] rfl (by (try simp only [List.map_toArray, List.map_cons, List.map_nil]); first | done | rfl | (simp only [tb_wrap8]; done) | (simp only [tb_wrap8]; rfl) | (simp only [List.length_drop, List.length_take]; rfl)) ?_; (with_reducible refine (ring_isModulus.calls a1 32 true _ A3.out).mono ?_); rintro e w' ⟨rfl, ⟨nd, rfl⟩⟩; refine ⟨_, rfl, ?_⟩) | ((with_reducible refine gate_callee (f := 28) rfl ?_); refine goesL_ (some 19) rfl rfl Tryd.func28 (by kernel_rfl) rfl #[.int .u64 a0, .int .u64 a1] rfl (by (try simp only [List.map_toArray, List.map_cons, List.map_nil]); first | done | rfl | (simp only [tb_wrap8]; done) | (simp only [tb_wrap8]; rfl) | (simp only [List.length_drop, List.length_take]; rfl)) ?_; (with_reducible refine (ring_divMod.calls k a0 a1 t131 t132 _ A5.out).mono ?_); rintro e w' ⟨rfl, ⟨nd, rfl⟩⟩; refine ⟨_, rfl, ?_⟩))
  go_loopg [7, 8, 9, 10] k (fun kq v7 v8 v9 v10 w' => ∃ (x7_1 : Int) (x8_1 : Int) (x9_1 : Int) (x10_1 : Int), v7 = .int .u64 x7_1 ∧ v8 = .int .u64 x8_1 ∧ v9 = .int .u64 x9_1 ∧ v10 = .int .u64 x10_1 ∧ Aside0 (ring_InvMod.l0 kq a1 x7_1 x8_1 x9_1 x10_1 = some (r1, r2)) ∧ Aside0 (kq ≤ k) ∧ Drawn0 w w')
  case atStart => exact ⟨(t132), (a1), (0), (1), (by first | rfl | (simp; done) | (simp [*]; done)), (by first | rfl | (simp; done) | (simp [*]; done)), (by first | rfl | (simp; done) | (simp [*]; done)), (by first | rfl | (simp; done) | (simp [*]; done)), H', ⟨Nat.le_refl _⟩, by repeat (first | exact Drawn0.refl _ | apply Drawn0.step)⟩
  case round =>
   clear H'
   try clear c2
   try clear p2
   try clear c3
   try clear c4
   obtain ⟨x7_1, x8_1, x9_1, x10_1, rfl, rfl, rfl, rfl, HA, HK1, ⟨m1, rfl⟩⟩ := hrel
   cases gk with
   | zero => exact absurd HA.out (by simp [ring_InvMod.l0])
   | succ k1 =>
    have H := HA.out
    clear HA
    simp only [ring_InvMod.l0] at H
    by_cases c6 : x7_1 = 0
    ·rw [if_pos c6] at H
     have c6b0 : (x7_1 == 0) = true := beq_iff_eq.mpr c6
     have c6b1 : (x7_1 != 0) = false := bne_eq_false_iff_eq.mpr c6
     clear c6
     by_cases c7 : x8_1 = 1
     ·rw [if_pos c7] at H
      have c7b0 : (x8_1 == 1) = true := beq_iff_eq.mpr c7
      have c7b1 : (x8_1 != 1) = false := bne_eq_false_iff_eq.mpr c7
      clear c7
      replace H := Option.bind_eq_some_iff.mp H
      obtain ⟨⟨t133, t134⟩, A80, H⟩ := H
      replace H : (some (t134, 0)) = some (r1, r2) := H
      have A8 := Aside0.mk A80
      clear A80
      simp only [Option.some.injEq, Prod.mk.injEq] at H
      obtain ⟨rfl, rfl⟩ := H
      go_wp2_with (first | ((with_reducible refine gate_callee (f := 28) rfl ?_); refine goesL_ (some 45) rfl rfl Tryd.func28 (by kernel_rfl) rfl #[.int .u64 x9_1, .int .u64 a1] rfl (by (try simp only [List.map_toArray, List.map_cons, List.map_nil]); first | done | rfl | (simp only [tb_wrap8]; done) | (simp only [tb_wrap8]; rfl) | (simp only [List.length_drop, List.length_take]; rfl)) ?_; (with_reducible refine (ring_divMod.calls k1 x9_1 a1 t133 t134 _ A8.out).mono ?_); rintro e w' ⟨rfl, ⟨nd, rfl⟩⟩; refine ⟨_, rfl, ?_⟩))
      go_ret2
      exact ⟨by first | rfl | (simp; done) | (simp [*]; done), by repeat (first | exact Drawn0.refl _ | apply Drawn0.step)⟩
     ·rw [if_neg c7] at H
      have c7b0 : (x8_1 == 1) = false := beq_eq_false_iff_ne.mpr c7
      have c7b1 : (x8_1 != 1) = true := bne_iff_ne.mpr c7
      simp only [Option.some.injEq, Prod.mk.injEq] at H
      obtain ⟨rfl, rfl⟩ := H
      go_wp2
      go_ret2
      exact ⟨by first | rfl | (simp; done) | (simp [*]; done), by repeat (first | exact Drawn0.refl _ | apply Drawn0.step)⟩
    ·rw [if_neg c6] at H
     have c6b0 : (x7_1 == 0) = false := beq_eq_false_iff_ne.mpr c6
     have c6b1 : (x7_1 != 0) = true := bne_iff_ne.mpr c6
     replace H := Option.bind_eq_some_iff.mp H
     obtain ⟨⟨t135, t136⟩, A90, H⟩ := H
     replace H : ((ring_mulMod.f k1 t135 x10_1 a1).bind fun t137 => (ring_InvMod.l0 k1 a1 t136 x7_1 x10_1 (Go.bits .xor .u64 x9_1 t137))) = some (r1, r2) := H
     have A9 := Aside0.mk A90
     clear A90
     replace H := Option.bind_eq_some_iff.mp H
     obtain ⟨t137, A100, H⟩ := H
     replace H : (ring_InvMod.l0 k1 a1 t136 x7_1 x10_1 (Go.bits .xor .u64 x9_1 t137)) = some (r1, r2) := H
     have A10 := Aside0.mk A100
     clear A100
     have H' := Aside0.mk H
     clear H
     go_wp2_with (first | ((with_reducible refine gate_callee (f := 28) rfl ?_); refine goesL_ (some 28) rfl rfl Tryd.func28 (by kernel_rfl) rfl #[.int .u64 x8_1, .int .u64 x7_1] rfl (by (try simp only [List.map_toArray, List.map_cons, List.map_nil]); first | done | rfl | (simp only [tb_wrap8]; done) | (simp only [tb_wrap8]; rfl) | (simp only [List.length_drop, List.length_take]; rfl)) ?_; (with_reducible refine (ring_divMod.calls k1 x8_1 x7_1 t135 t136 _ A9.out).mono ?_); rintro e w' ⟨rfl, ⟨nd, rfl⟩⟩; refine ⟨_, rfl, ?_⟩) | ((with_reducible refine gate_callee (f := 46) rfl ?_); refine goesL_ (some 38) rfl rfl Tryd.func46 (by kernel_rfl) rfl #[.int .u64 t135, .int .u64 x10_1, .int .u64 a1] rfl (by (try simp only [List.map_toArray, List.map_cons, List.map_nil]); first | done | rfl | (simp only [tb_wrap8]; done) | (simp only [tb_wrap8]; rfl) | (simp only [List.length_drop, List.length_take]; rfl)) ?_; (with_reducible refine (ring_mulMod.calls k1 t135 x10_1 a1 t137 _ A10.out).mono ?_); rintro e w' ⟨rfl, ⟨nd, rfl⟩⟩; refine ⟨_, rfl, ?_⟩))
     go_roundg k1
     case measure => have := HK1.out; omega
     case rel => exact ⟨(t136), (x7_1), (x10_1), (Go.bits .xor .u64 x9_1 t137), (by first | rfl | (simp; done) | (simp [*]; done)), (by first | rfl | (simp; done) | (simp [*]; done)), (by first | rfl | (simp; done) | (simp [*]; done)), (by first | rfl | (simp; done) | (simp [*]; done)), H', ⟨by have := HK1.out; omega⟩, by repeat (first | exact Drawn0.refl _ | apply Drawn0.step)⟩
 ·replace c4 := Bool.eq_false_iff.mpr c4
  subst c4
  have H1 : (some (0, 11)) = some (r1, r2) := by rw [if_neg (show ¬ (false = true) by decide)] at H; exact H
  clear H
  have H := H1
  clear H1
  simp only [Option.some.injEq, Prod.mk.injEq] at H
  obtain ⟨rfl, rfl⟩ := H
  go_enter Tryd.func32, Tryd.ntmps32
  go_wp2_with (first | ((with_reducible refine gate_callee (f := 45) rfl ?_); refine goesL_ (some 14) rfl rfl Tryd.func45 (by kernel_rfl) rfl #[.int .u64 a1, .int .i64 32] rfl (by (try simp only [List.map_toArray, List.map_cons, List.map_nil]); first | done | rfl | (simp only [tb_wrap8]; done) | (simp only [tb_wrap8]; rfl) | (simp only [List.length_drop, List.length_take]; rfl)) ?_; (with_reducible refine (ring_isModulus.calls a1 32 false _ A3.out).mono ?_); rintro e w' ⟨rfl, ⟨nd, rfl⟩⟩; refine ⟨_, rfl, ?_⟩))
  go_ret2
  exact ⟨by first | rfl | (simp; done) | (simp [*]; done), by repeat (first | exact Drawn0.refl _ | apply Drawn0.step)⟩

/-! ### ring_Irreducible: function 34 -/
def ring_Irreducible.l0 : Nat → Int → Int → Int → Int → Int → Option (Bool × Int)
 | 0, _, _, _, _, _ => none
 | k + 1, x0, x4, x6, x7, x8 => if x8 ≤ (wrap64 (Int.tdiv x4 2)) then ((ring_mulMod.f k x7 x7 x0).bind fun t142 => ((ring_Gcd.f k x0 (Go.bits .xor .u64 t142 x6)).bind fun t143 => (if t143 = 1 then (ring_Irreducible.l0 k x0 x4 x6 t142 (wrap64 (x8 + 1))) else (some (false, 0))))) else (some (true, 0))
def ring_Irreducible.f (k : Nat) (a0 : Int) : Option (Bool × Int) := (ring_isModulus.f a0 32).bind fun t138 => (if t138 = true then ((ring_Degree.f a0).bind fun t139 => ((ring_divMod.f k 2 a0).bind fun bt140 => (ring_Irreducible.l0 k a0 t139 bt140.2 bt140.2 1))) else (some (false, 11)))
theorem ring_Irreducible.mono_l : ∀ k, (∀ y0 y1 y2 y3 y4, LeO (ring_Irreducible.l0 k y0 y1 y2 y3 y4) (ring_Irreducible.l0 (k + 1) y0 y1 y2 y3 y4))
 | 0 => fun _ _ _ _ _ r h => by simp [ring_Irreducible.l0] at h
 | k + 1 => by
  have ih0 := ring_Irreducible.mono_l k
  ·intro y0 y1 y2 y3 y4
   unfold ring_Irreducible.l0
   repeat' first
   | (with_reducible exact ih0 _ _ _ _ _)
   | (with_reducible exact ring_Gcd.mono _ _ _)
   | (with_reducible exact ring_divMod.mono _ _ _)
   | (with_reducible exact ring_mulMod.mono _ _ _ _)
   | (with_reducible exact LeO.refl _)
   | (with_reducible exact LeO.none _)
   | (with_reducible refine LeO.ite ?_ ?_)
   | (with_reducible refine LeO.bind ?_ (fun _ => ?_))
   | exact ih0 _ _ _ _ _
   | exact ring_Gcd.mono _ _ _
   | exact ring_divMod.mono _ _ _
   | exact ring_mulMod.mono _ _ _ _
   | exact LeO.none _
   | refine LeO.ite ?_ ?_
   | refine LeO.bind ?_ (fun _ => ?_)
theorem ring_Irreducible.mono : ∀ a0 k, LeO (ring_Irreducible.f k a0) (ring_Irreducible.f (k + 1) a0) := by
 intro a0 k
 have ih0 := ring_Irreducible.mono_l k
 unfold ring_Irreducible.f
 repeat' first
   | (with_reducible exact ih0 _ _ _ _ _)
   | (with_reducible exact ring_Gcd.mono _ _ _)
   | (with_reducible exact ring_divMod.mono _ _ _)
   | (with_reducible exact ring_mulMod.mono _ _ _ _)
   | (with_reducible exact LeO.refl _)
   | (with_reducible exact LeO.none _)
   | (with_reducible refine LeO.ite ?_ ?_)
   | (with_reducible refine LeO.bind ?_ (fun _ => ?_))
   | exact ih0 _ _ _ _ _
   | exact ring_Gcd.mono _ _ _
   | exact ring_divMod.mono _ _ _
   | exact ring_mulMod.mono _ _ _ _
   | exact LeO.none _
   | refine LeO.ite ?_ ?_
   | refine LeO.bind ?_ (fun _ => ?_)
set_option maxHeartbeats 8000000 in
set_option maxRecDepth 100000 in
theorem ring_Irreducible.calls (k : Nat) (a0 : Int) (r1 : Bool) (r2 : Int) (w : World) (h : ring_Irreducible.f k a0 = some (r1, r2)) :
  Calls Tryd.prog 34 #[.int .u64 a0] w fun e w' => e = .returned (.tuple #[.bool r1, .int .i64 r2]) ∧ Drawn0 w w' := by
 have H : ((ring_isModulus.f a0 32).bind fun t138 => (if t138 = true then ((ring_Degree.f a0).bind fun t139 => ((ring_divMod.f k 2 a0).bind fun bt140 => (ring_Irreducible.l0 k a0 t139 bt140.2 bt140.2 1))) else (some (false, 11)))) = some (r1, r2) := h
 clear h
 replace H := Option.bind_eq_some_iff.mp H
 obtain ⟨t138, A20, H⟩ := H
 replace H : (if t138 = true then ((ring_Degree.f a0).bind fun t139 => ((ring_divMod.f k 2 a0).bind fun bt140 => (ring_Irreducible.l0 k a0 t139 bt140.2 bt140.2 1))) else (some (false, 11))) = some (r1, r2) := H
 have A2 := Aside0.mk A20
 clear A20
 by_cases c3 : t138 = true
 ·subst c3
  have H1 : ((ring_Degree.f a0).bind fun t139 => ((ring_divMod.f k 2 a0).bind fun bt140 => (ring_Irreducible.l0 k a0 t139 bt140.2 bt140.2 1))) = some (r1, r2) := by rw [if_pos rfl] at H; exact H
  clear H
  have H := H1
  clear H1
  replace H := Option.bind_eq_some_iff.mp H
  obtain ⟨t139, A40, H⟩ := H
  replace H : ((ring_divMod.f k 2 a0).bind fun bt140 => (ring_Irreducible.l0 k a0 t139 bt140.2 bt140.2 1)) = some (r1, r2) := H
  have A4 := Aside0.mk A40
  clear A40
  replace H := Option.bind_eq_some_iff.mp H
  obtain ⟨⟨t140, t141⟩, A50, H⟩ := H
  replace H : (ring_Irreducible.l0 k a0 t139 t141 t141 1) = some (r1, r2) := H
  have A5 := Aside0.mk A50
  clear A50
  have H' := Aside0.mk H
  clear H
  go_enter Tryd.func34, Tryd.ntmps34
  go_wp2_with (first | ((with_reducible refine gate_callee (f := 45) rfl ?_); refine goesL_ (some 10) rfl rfl Tryd.func45 (by kernel_rfl) rfl #[.int .u64 a0, .int .i64 32] rfl (by (try simp only [List.map_toArray, List.map_cons, List.map_nil]); first | done | rfl | (simp only [tb_wrap8]; done) | (simp only [tb_wrap8]; rfl) | (simp only [List.length_drop, List.length_take]; rfl)) ?_; (with_reducible refine (ring_isModulus.calls a0 32 true _ A2.out).mono ?_); rintro e w' ⟨rfl, ⟨nd, rfl⟩⟩; refine ⟨_, rfl, ?_⟩) | ((with_reducible refine gate_callee (f := 17) rfl ?_); refine goesL_ (some 13) rfl rfl Tryd.func17 (by kernel_rfl) rfl #[.int .u64 a0] rfl (by (try simp only [List.map_toArray, List.map_cons, List.map_nil]); first | done | rfl | (simp only [tb_wrap8]; done) | (simp only [tb_wrap8]; rfl) | (simp only [List.length_drop, List.length_take]; rfl)) ?_; (with_reducible refine (ring_Degree.calls a0 t139 _ A4.out).mono ?_); rintro e w' ⟨rfl, ⟨nd, rfl⟩⟩; refine ⟨_, rfl, ?_⟩) | ((with_reducible refine gate_callee (f := 28) rfl ?_); refine goesL_ (some 16) rfl rfl Tryd.func28 (by kernel_rfl) rfl #[.int .u64 2, .int .u64 a0] rfl (by (try simp only [List.map_toArray, List.map_cons, List.map_nil]); first | done | rfl | (simp only [tb_wrap8]; done) | (simp only [tb_wrap8]; rfl) | (simp only [List.length_drop, List.length_take]; rfl)) ?_; (with_reducible refine (ring_divMod.calls k 2 a0 t140 t141 _ A5.out).mono ?_); rintro e w' ⟨rfl, ⟨nd, rfl⟩⟩; refine ⟨_, rfl, ?_⟩))
  go_loopg [7, 8] k (fun kq v7 v8 w' => ∃ (x7_1 : Int) (x8_1 : Int), v7 = .int .u64 x7_1 ∧ v8 = .int .i64 x8_1 ∧ Aside0 (ring_Irreducible.l0 kq a0 t139 t141 x7_1 x8_1 = some (r1, r2)) ∧ Aside0 (kq ≤ k) ∧ Drawn0 w w')
  case atStart => exact ⟨(t141), (1), (by first | rfl | (simp; done) | (simp [*]; done)), (by first | rfl | (simp; done) | (simp [*]; done)), H', ⟨Nat.le_refl _⟩, by repeat (first | exact Drawn0.refl _ | apply Drawn0.step)⟩
  case round =>
   clear H'
   try clear c1
   try clear c2
   try clear p2
   try clear c3
   try clear c4
   obtain ⟨x7_1, x8_1, rfl, rfl, HA, HK1, ⟨m1, rfl⟩⟩ := hrel
   cases gk with
   | zero => exact absurd HA.out (by simp [ring_Irreducible.l0])
   | succ k1 =>
    have H := HA.out
    clear HA
    simp only [ring_Irreducible.l0] at H
    by_cases c6 : x8_1 ≤ (wrap64 (Int.tdiv t139 2))
    ·rw [if_pos c6] at H
     have c6b0 : decide (x8_1 ≤ (wrap64 (Int.tdiv t139 2))) = true := decide_eq_true c6
     clear c6
     replace H := Option.bind_eq_some_iff.mp H
     obtain ⟨t142, A70, H⟩ := H
     replace H : ((ring_Gcd.f k1 a0 (Go.bits .xor .u64 t142 t141)).bind fun t143 => (if t143 = 1 then (ring_Irreducible.l0 k1 a0 t139 t141 t142 (wrap64 (x8_1 + 1))) else (some (false, 0)))) = some (r1, r2) := H
     have A7 := Aside0.mk A70
     clear A70
     replace H := Option.bind_eq_some_iff.mp H
     obtain ⟨t143, A80, H⟩ := H
     replace H : (if t143 = 1 then (ring_Irreducible.l0 k1 a0 t139 t141 t142 (wrap64 (x8_1 + 1))) else (some (false, 0))) = some (r1, r2) := H
     have A8 := Aside0.mk A80
     clear A80
     by_cases c9 : t143 = 1
     ·rw [if_pos c9] at H
      have c9b0 : (t143 == 1) = true := beq_iff_eq.mpr c9
      have c9b1 : (t143 != 1) = false := bne_eq_false_iff_eq.mpr c9
      clear c9
      have H' := Aside0.mk H
      clear H
      go_wp2_with (first | ((with_reducible refine gate_callee (f := 46) rfl ?_); refine goesL_ (some 29) rfl rfl Tryd.func46 (by kernel_rfl) rfl #[.int .u64 x7_1, .int .u64 x7_1, .int .u64 a0] rfl (by (try simp only [List.map_toArray, List.map_cons, List.map_nil]); first | done | rfl | (simp only [tb_wrap8]; done) | (simp only [tb_wrap8]; rfl) | (simp only [List.length_drop, List.length_take]; rfl)) ?_; (with_reducible refine (ring_mulMod.calls k1 x7_1 x7_1 a0 t142 _ A7.out).mono ?_); rintro e w' ⟨rfl, ⟨nd, rfl⟩⟩; refine ⟨_, rfl, ?_⟩) | ((with_reducible refine gate_callee (f := 13) rfl ?_); refine goesL_ (some 34) rfl rfl Tryd.func13 (by kernel_rfl) rfl #[.int .u64 a0, .int .u64 (Go.bits .xor .u64 t142 t141)] rfl (by (try simp only [List.map_toArray, List.map_cons, List.map_nil]); first | done | rfl | (simp only [tb_wrap8]; done) | (simp only [tb_wrap8]; rfl) | (simp only [List.length_drop, List.length_take]; rfl)) ?_; (with_reducible refine (ring_Gcd.calls k1 a0 (Go.bits .xor .u64 t142 t141) t143 _ A8.out).mono ?_); rintro e w' ⟨rfl, ⟨nd, rfl⟩⟩; refine ⟨_, rfl, ?_⟩))
      go_roundg k1
      case measure => have := HK1.out; omega
      case rel => exact ⟨(t142), (wrap64 (x8_1 + 1)), (by first | rfl | (simp; done) | (simp [*]; done)), (by first | rfl | (simp; done) | (simp [*]; done)), H', ⟨by have := HK1.out; omega⟩, by repeat (first | exact Drawn0.refl _ | apply Drawn0.step)⟩
     ·rw [if_neg c9] at H
      have c9b0 : (t143 == 1) = false := beq_eq_false_iff_ne.mpr c9
      have c9b1 : (t143 != 1) = true := bne_iff_ne.mpr c9
      simp only [Option.some.injEq, Prod.mk.injEq] at H
      obtain ⟨rfl, rfl⟩ := H
      go_wp2_with (first | ((with_reducible refine gate_callee (f := 46) rfl ?_); refine goesL_ (some 29) rfl rfl Tryd.func46 (by kernel_rfl) rfl #[.int .u64 x7_1, .int .u64 x7_1, .int .u64 a0] rfl (by (try simp only [List.map_toArray, List.map_cons, List.map_nil]); first | done | rfl | (simp only [tb_wrap8]; done) | (simp only [tb_wrap8]; rfl) | (simp only [List.length_drop, List.length_take]; rfl)) ?_; (with_reducible refine (ring_mulMod.calls k1 x7_1 x7_1 a0 t142 _ A7.out).mono ?_); rintro e w' ⟨rfl, ⟨nd, rfl⟩⟩; refine ⟨_, rfl, ?_⟩) | ((with_reducible refine gate_callee (f := 13) rfl ?_); refine goesL_ (some 34) rfl rfl Tryd.func13 (by kernel_rfl) rfl #[.int .u64 a0, .int .u64 (Go.bits .xor .u64 t142 t141)] rfl (by (try simp only [List.map_toArray, List.map_cons, List.map_nil]); first | done | rfl | (simp only [tb_wrap8]; done) | (simp only [tb_wrap8]; rfl) | (simp only [List.length_drop, List.length_take]; rfl)) ?_; (with_reducible refine (ring_Gcd.calls k1 a0 (Go.bits .xor .u64 t142 t141) t143 _ A8.out).mono ?_); rintro e w' ⟨rfl, ⟨nd, rfl⟩⟩; refine ⟨_, rfl, ?_⟩))
      go_ret2
      exact ⟨by first | rfl | (simp; done) | (simp [*]; done), by repeat (first | exact Drawn0.refl _ | apply Drawn0.step)⟩
    ·rw [if_neg c6] at H
     have c6b0 : decide (x8_1 ≤ (wrap64 (Int.tdiv t139 2))) = false := decide_eq_false c6
     clear c6
     simp only [Option.some.injEq, Prod.mk.injEq] at H
     obtain ⟨rfl, rfl⟩ := H
     go_wp2
     go_ret2
     exact ⟨by first | rfl | (simp; done) | (simp [*]; done), by repeat (first | exact Drawn0.refl _ | apply Drawn0.step)⟩
 ·replace c3 := Bool.eq_false_iff.mpr c3
  subst c3
  have H1 : (some (false, 11)) = some (r1, r2) := by rw [if_neg (show ¬ (false = true) by decide)] at H; exact H
  clear H
  have H := H1
  clear H1
  simp only [Option.some.injEq, Prod.mk.injEq] at H
  obtain ⟨rfl, rfl⟩ := H
  go_enter Tryd.func34, Tryd.ntmps34
  go_wp2_with (first | ((with_reducible refine gate_callee (f := 45) rfl ?_); refine goesL_ (some 10) rfl rfl Tryd.func45 (by kernel_rfl) rfl #[.int .u64 a0, .int .i64 32] rfl (by (try simp only [List.map_toArray, List.map_cons, List.map_nil]); first | done | rfl | (simp only [tb_wrap8]; done) | (simp only [tb_wrap8]; rfl) | (simp only [List.length_drop, List.length_take]; rfl)) ?_; (with_reducible refine (ring_isModulus.calls a0 32 false _ A2.out).mono ?_); rintro e w' ⟨rfl, ⟨nd, rfl⟩⟩; refine ⟨_, rfl, ?_⟩))
  go_ret2
  exact ⟨by first | rfl | (simp; done) | (simp [*]; done), by repeat (first | exact Drawn0.refl _ | apply Drawn0.step)⟩

end Go.Proofs.YthldahaimcdejaaDoor.A
end
section
-- Printed for this claim by mp.py, a program of its prover, through the kit's print. Lean checks it.
namespace Go.Proofs.YthldahaimcdejaaDoor.A
open Go.RowKit Go.Proofs.YthldahaimcdejaaDoorW.PrintWords Go.Proofs.YthldahaimcdejaaDoorW.PrintLast Go.Proofs.YthldahaimcdejaaDoorW.PrintMore
attribute [local go_sem] max2_int min2_int max_two min_two max_three min_three max_four min_four   -- for this text's walks alone
set_option linter.unusedVariables false
set_option linter.unusedSimpArgs false

/-! ### ring_Order: function 36 -/
def ring_Order.l0 : Nat → Int → Int → Int → Int → Int → Option (Int × Int)
 | 0, _, _, _, _, _ => none
 | k + 1, x0, x1, x7, x9, x10 => if x9 = x7 then (some (x10, 0)) else ((ring_mulMod.f k x9 x0 x1).bind fun t150 => (ring_Order.l0 k x0 x1 x7 t150 (wrap64 (x10 + 1))))
def ring_Order.f (k : Nat) (a0 : Int) (a1 : Int) : Option (Int × Int) := (ring_isModulus.f a1 16).bind fun t144 => (if t144 = true then ((ring_Gcd.f k a0 a1).bind fun t145 => (if t145 = 1 then ((ring_divMod.f k 1 a1).bind fun bt146 => ((ring_divMod.f k a0 a1).bind fun bt148 => (ring_Order.l0 k a0 a1 bt146.2 bt148.2 1))) else (some (0, 12)))) else (some (0, 11)))
theorem ring_Order.mono_l : ∀ k, (∀ y0 y1 y2 y3 y4, LeO (ring_Order.l0 k y0 y1 y2 y3 y4) (ring_Order.l0 (k + 1) y0 y1 y2 y3 y4))
 | 0 => fun _ _ _ _ _ r h => by simp [ring_Order.l0] at h
 | k + 1 => by
  have ih0 := ring_Order.mono_l k
  ·intro y0 y1 y2 y3 y4
   unfold ring_Order.l0
   repeat' first
   | (with_reducible exact ih0 _ _ _ _ _)
   | (with_reducible exact ring_Gcd.mono _ _ _)
   | (with_reducible exact ring_divMod.mono _ _ _)
   | (with_reducible exact ring_mulMod.mono _ _ _ _)
   | (with_reducible exact LeO.refl _)
   | (with_reducible exact LeO.none _)
   | (with_reducible refine LeO.ite ?_ ?_)
   | (with_reducible refine LeO.bind ?_ (fun _ => ?_))
   | exact ih0 _ _ _ _ _
   | exact ring_Gcd.mono _ _ _
   | exact ring_divMod.mono _ _ _
   | exact ring_mulMod.mono _ _ _ _
   | exact LeO.none _
   | refine LeO.ite ?_ ?_
   | refine LeO.bind ?_ (fun _ => ?_)
theorem ring_Order.mono : ∀ a0 a1 k, LeO (ring_Order.f k a0 a1) (ring_Order.f (k + 1) a0 a1) := by
 intro a0 a1 k
 have ih0 := ring_Order.mono_l k
 unfold ring_Order.f
 repeat' first
   | (with_reducible exact ih0 _ _ _ _ _)
   | (with_reducible exact ring_Gcd.mono _ _ _)
   | (with_reducible exact ring_divMod.mono _ _ _)
   | (with_reducible exact ring_mulMod.mono _ _ _ _)
   | (with_reducible exact LeO.refl _)
   | (with_reducible exact LeO.none _)
   | (with_reducible refine LeO.ite ?_ ?_)
   | (with_reducible refine LeO.bind ?_ (fun _ => ?_))
   | exact ih0 _ _ _ _ _
   | exact ring_Gcd.mono _ _ _
   | exact ring_divMod.mono _ _ _
   | exact ring_mulMod.mono _ _ _ _
   | exact LeO.none _
   | refine LeO.ite ?_ ?_
   | refine LeO.bind ?_ (fun _ => ?_)
set_option maxHeartbeats 8000000 in
set_option maxRecDepth 100000 in
theorem ring_Order.calls (k : Nat) (a0 : Int) (a1 : Int) (r1 : Int) (r2 : Int) (w : World) (h : ring_Order.f k a0 a1 = some (r1, r2)) :
  Calls Tryd.prog 36 #[.int .u64 a0, .int .u64 a1] w fun e w' => e = .returned (.tuple #[.int .i64 r1, .int .i64 r2]) ∧ Drawn0 w w' := by
 have H : ((ring_isModulus.f a1 16).bind fun t144 => (if t144 = true then ((ring_Gcd.f k a0 a1).bind fun t145 => (if t145 = 1 then ((ring_divMod.f k 1 a1).bind fun bt146 => ((ring_divMod.f k a0 a1).bind fun bt148 => (ring_Order.l0 k a0 a1 bt146.2 bt148.2 1))) else (some (0, 12)))) else (some (0, 11)))) = some (r1, r2) := h
 clear h
 replace H := Option.bind_eq_some_iff.mp H
 obtain ⟨t144, A30, H⟩ := H
 replace H : (if t144 = true then ((ring_Gcd.f k a0 a1).bind fun t145 => (if t145 = 1 then ((ring_divMod.f k 1 a1).bind fun bt146 => ((ring_divMod.f k a0 a1).bind fun bt148 => (ring_Order.l0 k a0 a1 bt146.2 bt148.2 1))) else (some (0, 12)))) else (some (0, 11))) = some (r1, r2) := H
 have A3 := Aside0.mk A30
 clear A30
 by_cases c4 : t144 = true
 ·subst c4
  have H1 : ((ring_Gcd.f k a0 a1).bind fun t145 => (if t145 = 1 then ((ring_divMod.f k 1 a1).bind fun bt146 => ((ring_divMod.f k a0 a1).bind fun bt148 => (ring_Order.l0 k a0 a1 bt146.2 bt148.2 1))) else (some (0, 12)))) = some (r1, r2) := by rw [if_pos rfl] at H; exact H
  clear H
  have H := H1
  clear H1
  replace H := Option.bind_eq_some_iff.mp H
  obtain ⟨t145, A50, H⟩ := H
  replace H : (if t145 = 1 then ((ring_divMod.f k 1 a1).bind fun bt146 => ((ring_divMod.f k a0 a1).bind fun bt148 => (ring_Order.l0 k a0 a1 bt146.2 bt148.2 1))) else (some (0, 12))) = some (r1, r2) := H
  have A5 := Aside0.mk A50
  clear A50
  by_cases c6 : t145 = 1
  ·rw [if_pos c6] at H
   have c6b0 : (t145 == 1) = true := beq_iff_eq.mpr c6
   have c6b1 : (t145 != 1) = false := bne_eq_false_iff_eq.mpr c6
   clear c6
   replace H := Option.bind_eq_some_iff.mp H
   obtain ⟨⟨t146, t147⟩, A70, H⟩ := H
   replace H : ((ring_divMod.f k a0 a1).bind fun bt148 => (ring_Order.l0 k a0 a1 t147 bt148.2 1)) = some (r1, r2) := H
   have A7 := Aside0.mk A70
   clear A70
   replace H := Option.bind_eq_some_iff.mp H
   obtain ⟨⟨t148, t149⟩, A80, H⟩ := H
   replace H : (ring_Order.l0 k a0 a1 t147 t149 1) = some (r1, r2) := H
   have A8 := Aside0.mk A80
   clear A80
   have H' := Aside0.mk H
   clear H
   go_enter Tryd.func36, Tryd.ntmps36
   go_wp2_with (first | ((with_reducible refine gate_callee (f := 45) rfl ?_); refine goesL_ (some 12) rfl rfl Tryd.func45 (by kernel_rfl) rfl #[.int .u64 a1, .int .i64 16] rfl (by (try simp only [List.map_toArray, List.map_cons, List.map_nil]); first | done | rfl | (simp only [tb_wrap8]; done) | (simp only [tb_wrap8]; rfl) | (simp only [List.length_drop, List.length_take]; rfl)) ?_; (with_reducible refine (ring_isModulus.calls a1 16 true _ A3.out).mono ?_); rintro e w' ⟨rfl, ⟨nd, rfl⟩⟩; refine ⟨_, rfl, ?_⟩) | ((with_reducible refine gate_callee (f := 13) rfl ?_); refine goesL_ (some 16) rfl rfl Tryd.func13 (by kernel_rfl) rfl #[.int .u64 a0, .int .u64 a1] rfl (by (try simp only [List.map_toArray, List.map_cons, List.map_nil]); first | done | rfl | (simp only [tb_wrap8]; done) | (simp only [tb_wrap8]; rfl) | (simp only [List.length_drop, List.length_take]; rfl)) ?_; (with_reducible refine (ring_Gcd.calls k a0 a1 t145 _ A5.out).mono ?_); rintro e w' ⟨rfl, ⟨nd, rfl⟩⟩; refine ⟨_, rfl, ?_⟩) | ((with_reducible refine gate_callee (f := 28) rfl ?_); refine goesL_ (some 20) rfl rfl Tryd.func28 (by kernel_rfl) rfl #[.int .u64 1, .int .u64 a1] rfl (by (try simp only [List.map_toArray, List.map_cons, List.map_nil]); first | done | rfl | (simp only [tb_wrap8]; done) | (simp only [tb_wrap8]; rfl) | (simp only [List.length_drop, List.length_take]; rfl)) ?_; (with_reducible refine (ring_divMod.calls k 1 a1 t146 t147 _ A7.out).mono ?_); rintro e w' ⟨rfl, ⟨nd, rfl⟩⟩; refine ⟨_, rfl, ?_⟩) | ((with_reducible refine gate_callee (f := 28) rfl ?_); refine goesL_ (some 26) rfl rfl Tryd.func28 (by kernel_rfl) rfl #[.int .u64 a0, .int .u64 a1] rfl (by (try simp only [List.map_toArray, List.map_cons, List.map_nil]); first | done | rfl | (simp only [tb_wrap8]; done) | (simp only [tb_wrap8]; rfl) | (simp only [List.length_drop, List.length_take]; rfl)) ?_; (with_reducible refine (ring_divMod.calls k a0 a1 t148 t149 _ A8.out).mono ?_); rintro e w' ⟨rfl, ⟨nd, rfl⟩⟩; refine ⟨_, rfl, ?_⟩))
   go_loopg [9, 10] k (fun kq v9 v10 w' => ∃ (x9_1 : Int) (x10_1 : Int), v9 = .int .u64 x9_1 ∧ v10 = .int .i64 x10_1 ∧ Aside0 (ring_Order.l0 kq a0 a1 t147 x9_1 x10_1 = some (r1, r2)) ∧ Aside0 (kq ≤ k) ∧ Drawn0 w w')
   case atStart => exact ⟨(t149), (1), (by first | rfl | (simp; done) | (simp [*]; done)), (by first | rfl | (simp; done) | (simp [*]; done)), H', ⟨Nat.le_refl _⟩, by repeat (first | exact Drawn0.refl _ | apply Drawn0.step)⟩
   case round =>
    clear H'
    try clear c1
    try clear c2
    try clear p2
    try clear c3
    try clear c4
    try clear c6
    try clear c6b0
    try clear c6b1
    try clear p8
    obtain ⟨x9_1, x10_1, rfl, rfl, HA, HK1, ⟨m1, rfl⟩⟩ := hrel
    cases gk with
    | zero => exact absurd HA.out (by simp [ring_Order.l0])
    | succ k1 =>
     have H := HA.out
     clear HA
     simp only [ring_Order.l0] at H
     by_cases c9 : x9_1 = t147
     ·rw [if_pos c9] at H
      have c9b0 : (x9_1 == t147) = true := beq_iff_eq.mpr c9
      have c9b1 : (x9_1 != t147) = false := bne_eq_false_iff_eq.mpr c9
      clear c9
      simp only [Option.some.injEq, Prod.mk.injEq] at H
      obtain ⟨rfl, rfl⟩ := H
      go_wp2
      go_ret2
      exact ⟨by first | rfl | (simp; done) | (simp [*]; done), by repeat (first | exact Drawn0.refl _ | apply Drawn0.step)⟩
     ·rw [if_neg c9] at H
      have c9b0 : (x9_1 == t147) = false := beq_eq_false_iff_ne.mpr c9
      have c9b1 : (x9_1 != t147) = true := bne_iff_ne.mpr c9
      replace H := Option.bind_eq_some_iff.mp H
      obtain ⟨t150, A100, H⟩ := H
      replace H : (ring_Order.l0 k1 a0 a1 t147 t150 (wrap64 (x10_1 + 1))) = some (r1, r2) := H
      have A10 := Aside0.mk A100
      clear A100
      have H' := Aside0.mk H
      clear H
      go_wp2_with (first | ((with_reducible refine gate_callee (f := 46) rfl ?_); refine goesL_ (some 38) rfl rfl Tryd.func46 (by kernel_rfl) rfl #[.int .u64 x9_1, .int .u64 a0, .int .u64 a1] rfl (by (try simp only [List.map_toArray, List.map_cons, List.map_nil]); first | done | rfl | (simp only [tb_wrap8]; done) | (simp only [tb_wrap8]; rfl) | (simp only [List.length_drop, List.length_take]; rfl)) ?_; (with_reducible refine (ring_mulMod.calls k1 x9_1 a0 a1 t150 _ A10.out).mono ?_); rintro e w' ⟨rfl, ⟨nd, rfl⟩⟩; refine ⟨_, rfl, ?_⟩))
      go_roundg k1
      case measure => have := HK1.out; omega
      case rel => exact ⟨(t150), (wrap64 (x10_1 + 1)), (by first | rfl | (simp; done) | (simp [*]; done)), (by first | rfl | (simp; done) | (simp [*]; done)), H', ⟨by have := HK1.out; omega⟩, by repeat (first | exact Drawn0.refl _ | apply Drawn0.step)⟩
  ·rw [if_neg c6] at H
   have c6b0 : (t145 == 1) = false := beq_eq_false_iff_ne.mpr c6
   have c6b1 : (t145 != 1) = true := bne_iff_ne.mpr c6
   simp only [Option.some.injEq, Prod.mk.injEq] at H
   obtain ⟨rfl, rfl⟩ := H
   go_enter Tryd.func36, Tryd.ntmps36
   go_wp2_with (first | ((with_reducible refine gate_callee (f := 45) rfl ?_); refine goesL_ (some 12) rfl rfl Tryd.func45 (by kernel_rfl) rfl #[.int .u64 a1, .int .i64 16] rfl (by (try simp only [List.map_toArray, List.map_cons, List.map_nil]); first | done | rfl | (simp only [tb_wrap8]; done) | (simp only [tb_wrap8]; rfl) | (simp only [List.length_drop, List.length_take]; rfl)) ?_; (with_reducible refine (ring_isModulus.calls a1 16 true _ A3.out).mono ?_); rintro e w' ⟨rfl, ⟨nd, rfl⟩⟩; refine ⟨_, rfl, ?_⟩) | ((with_reducible refine gate_callee (f := 13) rfl ?_); refine goesL_ (some 16) rfl rfl Tryd.func13 (by kernel_rfl) rfl #[.int .u64 a0, .int .u64 a1] rfl (by (try simp only [List.map_toArray, List.map_cons, List.map_nil]); first | done | rfl | (simp only [tb_wrap8]; done) | (simp only [tb_wrap8]; rfl) | (simp only [List.length_drop, List.length_take]; rfl)) ?_; (with_reducible refine (ring_Gcd.calls k a0 a1 t145 _ A5.out).mono ?_); rintro e w' ⟨rfl, ⟨nd, rfl⟩⟩; refine ⟨_, rfl, ?_⟩))
   go_ret2
   exact ⟨by first | rfl | (simp; done) | (simp [*]; done), by repeat (first | exact Drawn0.refl _ | apply Drawn0.step)⟩
 ·replace c4 := Bool.eq_false_iff.mpr c4
  subst c4
  have H1 : (some (0, 11)) = some (r1, r2) := by rw [if_neg (show ¬ (false = true) by decide)] at H; exact H
  clear H
  have H := H1
  clear H1
  simp only [Option.some.injEq, Prod.mk.injEq] at H
  obtain ⟨rfl, rfl⟩ := H
  go_enter Tryd.func36, Tryd.ntmps36
  go_wp2_with (first | ((with_reducible refine gate_callee (f := 45) rfl ?_); refine goesL_ (some 12) rfl rfl Tryd.func45 (by kernel_rfl) rfl #[.int .u64 a1, .int .i64 16] rfl (by (try simp only [List.map_toArray, List.map_cons, List.map_nil]); first | done | rfl | (simp only [tb_wrap8]; done) | (simp only [tb_wrap8]; rfl) | (simp only [List.length_drop, List.length_take]; rfl)) ?_; (with_reducible refine (ring_isModulus.calls a1 16 false _ A3.out).mono ?_); rintro e w' ⟨rfl, ⟨nd, rfl⟩⟩; refine ⟨_, rfl, ?_⟩))
  go_ret2
  exact ⟨by first | rfl | (simp; done) | (simp [*]; done), by repeat (first | exact Drawn0.refl _ | apply Drawn0.step)⟩

/-! ### ring_Primitive: function 38 -/
def ring_Primitive.f (k : Nat) (a0 : Int) : Option (Bool × Int) := (ring_isModulus.f a0 16).bind fun t151 => (if t151 = true then ((ring_Irreducible.f k a0).bind fun bt152 => (if bt152.1 = true then ((ring_Order.f k 2 a0).bind fun bt154 => (if bt154.2 = 0 then ((ring_Degree.f a0).bind fun t156 => (if 0 ≤ t156 then (some ((bt154.1 == (wrap64 ((shl .i64 1 t156) - 1))), 0)) else (none))) else (some (false, 0)))) else (some (false, 0)))) else (some (false, 11)))
theorem ring_Primitive.mono : ∀ a0 k, LeO (ring_Primitive.f k a0) (ring_Primitive.f (k + 1) a0) := by
 intro a0 k
 unfold ring_Primitive.f
 repeat' first
   | (with_reducible exact ring_Irreducible.mono _ _)
   | (with_reducible exact ring_Order.mono _ _ _)
   | (with_reducible exact LeO.refl _)
   | (with_reducible exact LeO.none _)
   | (with_reducible refine LeO.ite ?_ ?_)
   | (with_reducible refine LeO.bind ?_ (fun _ => ?_))
   | exact ring_Irreducible.mono _ _
   | exact ring_Order.mono _ _ _
   | exact LeO.none _
   | refine LeO.ite ?_ ?_
   | refine LeO.bind ?_ (fun _ => ?_)
set_option maxHeartbeats 8000000 in
set_option maxRecDepth 100000 in
theorem ring_Primitive.calls (k : Nat) (a0 : Int) (r1 : Bool) (r2 : Int) (w : World) (h : ring_Primitive.f k a0 = some (r1, r2)) :
  Calls Tryd.prog 38 #[.int .u64 a0] w fun e w' => e = .returned (.tuple #[.bool r1, .int .i64 r2]) ∧ Drawn0 w w' := by
 have H : ((ring_isModulus.f a0 16).bind fun t151 => (if t151 = true then ((ring_Irreducible.f k a0).bind fun bt152 => (if bt152.1 = true then ((ring_Order.f k 2 a0).bind fun bt154 => (if bt154.2 = 0 then ((ring_Degree.f a0).bind fun t156 => (if 0 ≤ t156 then (some ((bt154.1 == (wrap64 ((shl .i64 1 t156) - 1))), 0)) else (none))) else (some (false, 0)))) else (some (false, 0)))) else (some (false, 11)))) = some (r1, r2) := h
 clear h
 replace H := Option.bind_eq_some_iff.mp H
 obtain ⟨t151, A20, H⟩ := H
 replace H : (if t151 = true then ((ring_Irreducible.f k a0).bind fun bt152 => (if bt152.1 = true then ((ring_Order.f k 2 a0).bind fun bt154 => (if bt154.2 = 0 then ((ring_Degree.f a0).bind fun t156 => (if 0 ≤ t156 then (some ((bt154.1 == (wrap64 ((shl .i64 1 t156) - 1))), 0)) else (none))) else (some (false, 0)))) else (some (false, 0)))) else (some (false, 11))) = some (r1, r2) := H
 have A2 := Aside0.mk A20
 clear A20
 by_cases c3 : t151 = true
 ·subst c3
  have H1 : ((ring_Irreducible.f k a0).bind fun bt152 => (if bt152.1 = true then ((ring_Order.f k 2 a0).bind fun bt154 => (if bt154.2 = 0 then ((ring_Degree.f a0).bind fun t156 => (if 0 ≤ t156 then (some ((bt154.1 == (wrap64 ((shl .i64 1 t156) - 1))), 0)) else (none))) else (some (false, 0)))) else (some (false, 0)))) = some (r1, r2) := by rw [if_pos rfl] at H; exact H
  clear H
  have H := H1
  clear H1
  replace H := Option.bind_eq_some_iff.mp H
  obtain ⟨⟨t152, t153⟩, A40, H⟩ := H
  replace H : (if t152 = true then ((ring_Order.f k 2 a0).bind fun bt154 => (if bt154.2 = 0 then ((ring_Degree.f a0).bind fun t156 => (if 0 ≤ t156 then (some ((bt154.1 == (wrap64 ((shl .i64 1 t156) - 1))), 0)) else (none))) else (some (false, 0)))) else (some (false, 0))) = some (r1, r2) := H
  have A4 := Aside0.mk A40
  clear A40
  by_cases c5 : t152 = true
  ·subst c5
   have H1 : ((ring_Order.f k 2 a0).bind fun bt154 => (if bt154.2 = 0 then ((ring_Degree.f a0).bind fun t156 => (if 0 ≤ t156 then (some ((bt154.1 == (wrap64 ((shl .i64 1 t156) - 1))), 0)) else (none))) else (some (false, 0)))) = some (r1, r2) := by rw [if_pos rfl] at H; exact H
   clear H
   have H := H1
   clear H1
   replace H := Option.bind_eq_some_iff.mp H
   obtain ⟨⟨t154, t155⟩, A60, H⟩ := H
   replace H : (if t155 = 0 then ((ring_Degree.f a0).bind fun t156 => (if 0 ≤ t156 then (some ((t154 == (wrap64 ((shl .i64 1 t156) - 1))), 0)) else (none))) else (some (false, 0))) = some (r1, r2) := H
   have A6 := Aside0.mk A60
   clear A60
   by_cases c7 : t155 = 0
   ·rw [if_pos c7] at H
    have c7b0 : (t155 == 0) = true := beq_iff_eq.mpr c7
    have c7b1 : (t155 != 0) = false := bne_eq_false_iff_eq.mpr c7
    clear c7
    replace H := Option.bind_eq_some_iff.mp H
    obtain ⟨t156, A80, H⟩ := H
    replace H : (if 0 ≤ t156 then (some ((t154 == (wrap64 ((shl .i64 1 t156) - 1))), 0)) else (none)) = some (r1, r2) := H
    have A8 := Aside0.mk A80
    clear A80
    by_cases c9 : 0 ≤ t156
    ·rw [if_pos c9] at H
     have c9b0 := eq_true c9
     have c9b1 : decide (0 ≤ t156) = true := decide_eq_true c9
     clear c9
     obtain ⟨ji10, hji10⟩ : ∃ j_ : Int, (shl .i64 1 t156) = j_ := ⟨_, rfl⟩
     replace H : (some ((t154 == (wrap64 ((ji10) - 1))), 0)) = some (r1, r2) := by first | (rw [hji10] at H; exact H) | (simp only [hji10] at H ⊢; exact H)
     (try rw [hji10] at A2)
     (try rw [hji10] at A4)
     (try rw [hji10] at A6)
     (try rw [hji10] at A8)
     have hji10_ : (IntKind.i64.wrap (1 * 2 ^ min t156.toNat 64)) = ji10 := hji10
     have hji10z : t156 ≤ 64 → (IntKind.i64.wrap (1 * 2 ^ t156.toNat)) = ji10 := shl_small hji10
     have hji10u : (IntKind.i64.wrap (2 ^ min t156.toNat 64)) = ji10 := by have h_ := hji10_; rw [Int.one_mul] at h_; exact h_
     have hji10v : t156 ≤ 64 → (IntKind.i64.wrap (2 ^ t156.toNat)) = ji10 := fun hle_ => by have h_ := hji10z hle_; rw [Int.one_mul] at h_; exact h_
     have hji10y : (wrap64 (1 * 2 ^ min t156.toNat 64)) = ji10 := (i64_w _).symm.trans hji10_
     have hji10x : t156 ≤ 64 → (wrap64 (1 * 2 ^ t156.toNat)) = ji10 := fun h_ => (i64_w _).symm.trans (hji10z h_)
     simp only [Option.some.injEq, Prod.mk.injEq] at H
     obtain ⟨rfl, rfl⟩ := H
     go_enter Tryd.func38, Tryd.ntmps38
     go_wp2_with (first | ((with_reducible refine gate_callee (f := 45) rfl ?_); refine goesL_ (some 9) rfl rfl Tryd.func45 (by kernel_rfl) rfl #[.int .u64 a0, .int .i64 16] rfl (by (try simp only [List.map_toArray, List.map_cons, List.map_nil]); first | done | rfl | (simp only [tb_wrap8]; done) | (simp only [tb_wrap8]; rfl) | (simp only [List.length_drop, List.length_take]; rfl)) ?_; (with_reducible refine (ring_isModulus.calls a0 16 true _ A2.out).mono ?_); rintro e w' ⟨rfl, ⟨nd, rfl⟩⟩; refine ⟨_, rfl, ?_⟩) | ((with_reducible refine gate_callee (f := 34) rfl ?_); refine goesL_ (some 13) rfl rfl Tryd.func34 (by kernel_rfl) rfl #[.int .u64 a0] rfl (by (try simp only [List.map_toArray, List.map_cons, List.map_nil]); first | done | rfl | (simp only [tb_wrap8]; done) | (simp only [tb_wrap8]; rfl) | (simp only [List.length_drop, List.length_take]; rfl)) ?_; (with_reducible refine (ring_Irreducible.calls k a0 true t153 _ A4.out).mono ?_); rintro e w' ⟨rfl, ⟨nd, rfl⟩⟩; refine ⟨_, rfl, ?_⟩) | ((with_reducible refine gate_callee (f := 36) rfl ?_); refine goesL_ (some 20) rfl rfl Tryd.func36 (by kernel_rfl) rfl #[.int .u64 2, .int .u64 a0] rfl (by (try simp only [List.map_toArray, List.map_cons, List.map_nil]); first | done | rfl | (simp only [tb_wrap8]; done) | (simp only [tb_wrap8]; rfl) | (simp only [List.length_drop, List.length_take]; rfl)) ?_; (with_reducible refine (ring_Order.calls k 2 a0 t154 t155 _ A6.out).mono ?_); rintro e w' ⟨rfl, ⟨nd, rfl⟩⟩; refine ⟨_, rfl, ?_⟩) | (go_at_call 17; (with_reducible refine (ring_Degree.calls a0 t156 _ A8.out).mono ?_); rintro e w' ⟨rfl, ⟨nd, rfl⟩⟩))
     go_ret2
     exact ⟨by first | rfl | (simp; done) | (simp only [← hji10] <;> (first | rfl | simp)) | (simp [*]; done), by repeat (first | exact Drawn0.refl _ | apply Drawn0.step)⟩
    ·rw [if_neg c9] at H
     exact absurd H (by simp)
   ·rw [if_neg c7] at H
    have c7b0 : (t155 == 0) = false := beq_eq_false_iff_ne.mpr c7
    have c7b1 : (t155 != 0) = true := bne_iff_ne.mpr c7
    simp only [Option.some.injEq, Prod.mk.injEq] at H
    obtain ⟨rfl, rfl⟩ := H
    go_enter Tryd.func38, Tryd.ntmps38
    go_wp2_with (first | ((with_reducible refine gate_callee (f := 45) rfl ?_); refine goesL_ (some 9) rfl rfl Tryd.func45 (by kernel_rfl) rfl #[.int .u64 a0, .int .i64 16] rfl (by (try simp only [List.map_toArray, List.map_cons, List.map_nil]); first | done | rfl | (simp only [tb_wrap8]; done) | (simp only [tb_wrap8]; rfl) | (simp only [List.length_drop, List.length_take]; rfl)) ?_; (with_reducible refine (ring_isModulus.calls a0 16 true _ A2.out).mono ?_); rintro e w' ⟨rfl, ⟨nd, rfl⟩⟩; refine ⟨_, rfl, ?_⟩) | ((with_reducible refine gate_callee (f := 34) rfl ?_); refine goesL_ (some 13) rfl rfl Tryd.func34 (by kernel_rfl) rfl #[.int .u64 a0] rfl (by (try simp only [List.map_toArray, List.map_cons, List.map_nil]); first | done | rfl | (simp only [tb_wrap8]; done) | (simp only [tb_wrap8]; rfl) | (simp only [List.length_drop, List.length_take]; rfl)) ?_; (with_reducible refine (ring_Irreducible.calls k a0 true t153 _ A4.out).mono ?_); rintro e w' ⟨rfl, ⟨nd, rfl⟩⟩; refine ⟨_, rfl, ?_⟩) | ((with_reducible refine gate_callee (f := 36) rfl ?_); refine goesL_ (some 20) rfl rfl Tryd.func36 (by kernel_rfl) rfl #[.int .u64 2, .int .u64 a0] rfl (by (try simp only [List.map_toArray, List.map_cons, List.map_nil]); first | done | rfl | (simp only [tb_wrap8]; done) | (simp only [tb_wrap8]; rfl) | (simp only [List.length_drop, List.length_take]; rfl)) ?_; (with_reducible refine (ring_Order.calls k 2 a0 t154 t155 _ A6.out).mono ?_); rintro e w' ⟨rfl, ⟨nd, rfl⟩⟩; refine ⟨_, rfl, ?_⟩))
    go_ret2
    exact ⟨by first | rfl | (simp; done) | (simp [*]; done), by repeat (first | exact Drawn0.refl _ | apply Drawn0.step)⟩
  ·replace c5 := Bool.eq_false_iff.mpr c5
   subst c5
   have H1 : (some (false, 0)) = some (r1, r2) := by rw [if_neg (show ¬ (false = true) by decide)] at H; exact H
   clear H
   have H := H1
   clear H1
   simp only [Option.some.injEq, Prod.mk.injEq] at H
   obtain ⟨rfl, rfl⟩ := H
   go_enter Tryd.func38, Tryd.ntmps38
   go_wp2_with (first | ((with_reducible refine gate_callee (f := 45) rfl ?_); refine goesL_ (some 9) rfl rfl Tryd.func45 (by kernel_rfl) rfl #[.int .u64 a0, .int .i64 16] rfl (by (try simp only [List.map_toArray, List.map_cons, List.map_nil]); first | done | rfl | (simp only [tb_wrap8]; done) | (simp only [tb_wrap8]; rfl) | (simp only [List.length_drop, List.length_take]; rfl)) ?_; (with_reducible refine (ring_isModulus.calls a0 16 true _ A2.out).mono ?_); rintro e w' ⟨rfl, ⟨nd, rfl⟩⟩; refine ⟨_, rfl, ?_⟩) | ((with_reducible refine gate_callee (f := 34) rfl ?_); refine goesL_ (some 13) rfl rfl Tryd.func34 (by kernel_rfl) rfl #[.int .u64 a0] rfl (by (try simp only [List.map_toArray, List.map_cons, List.map_nil]); first | done | rfl | (simp only [tb_wrap8]; done) | (simp only [tb_wrap8]; rfl) | (simp only [List.length_drop, List.length_take]; rfl)) ?_; (with_reducible refine (ring_Irreducible.calls k a0 false t153 _ A4.out).mono ?_); rintro e w' ⟨rfl, ⟨nd, rfl⟩⟩; refine ⟨_, rfl, ?_⟩))
   go_ret2
   exact ⟨by first | rfl | (simp; done) | (simp [*]; done), by repeat (first | exact Drawn0.refl _ | apply Drawn0.step)⟩
 ·replace c3 := Bool.eq_false_iff.mpr c3
  subst c3
  have H1 : (some (false, 11)) = some (r1, r2) := by rw [if_neg (show ¬ (false = true) by decide)] at H; exact H
  clear H
  have H := H1
  clear H1
  simp only [Option.some.injEq, Prod.mk.injEq] at H
  obtain ⟨rfl, rfl⟩ := H
  go_enter Tryd.func38, Tryd.ntmps38
  go_wp2_with (first | ((with_reducible refine gate_callee (f := 45) rfl ?_); refine goesL_ (some 9) rfl rfl Tryd.func45 (by kernel_rfl) rfl #[.int .u64 a0, .int .i64 16] rfl (by (try simp only [List.map_toArray, List.map_cons, List.map_nil]); first | done | rfl | (simp only [tb_wrap8]; done) | (simp only [tb_wrap8]; rfl) | (simp only [List.length_drop, List.length_take]; rfl)) ?_; (with_reducible refine (ring_isModulus.calls a0 16 false _ A2.out).mono ?_); rintro e w' ⟨rfl, ⟨nd, rfl⟩⟩; refine ⟨_, rfl, ?_⟩))
  go_ret2
  exact ⟨by first | rfl | (simp; done) | (simp [*]; done), by repeat (first | exact Drawn0.refl _ | apply Drawn0.step)⟩

/-! ### culletlaw01_awake: function 10 -/
def culletlaw01_awake.j0 : Nat → Bool → Option (Bool)
 | 0, _ => none
 | k + 1, x20 => if x20 = true then (some false) else ((ring_MulMod.f k 128 2 285).bind fun bt160 => (if bt160.1 = 29 then (if bt160.2 = 0 then ((ring_Degree.f 5).bind fun t162 => (if t162 = 2 then ((ring_Mul.f k 3 3).bind fun t163 => (some (t163 == 5))) else (some false))) else (some false)) else (some false)))
def culletlaw01_awake.f (k : Nat)  : Option (Bool) := (ring_DivMod.f k 285 2).bind fun bt157 => (if bt157.1 = 142 then (if bt157.2.1 = 1 then (culletlaw01_awake.j0 k (bt157.2.2 != 0)) else (culletlaw01_awake.j0 k true)) else (culletlaw01_awake.j0 k true))
theorem culletlaw01_awake.mono_l : ∀ k, (∀ y0, LeO (culletlaw01_awake.j0 k y0) (culletlaw01_awake.j0 (k + 1) y0))
 | 0 => fun _ r h => by simp [culletlaw01_awake.j0] at h
 | k + 1 => by
  have ih0 := culletlaw01_awake.mono_l k
  ·intro y0
   unfold culletlaw01_awake.j0
   repeat' first
   | (with_reducible exact ih0 _)
   | (with_reducible exact ring_DivMod.mono _ _ _)
   | (with_reducible exact ring_Mul.mono _ _ _)
   | (with_reducible exact ring_MulMod.mono _ _ _ _)
   | (with_reducible exact LeO.refl _)
   | (with_reducible exact LeO.none _)
   | (with_reducible refine LeO.ite ?_ ?_)
   | (with_reducible refine LeO.bind ?_ (fun _ => ?_))
   | exact ih0 _
   | exact ring_DivMod.mono _ _ _
   | exact ring_Mul.mono _ _ _
   | exact ring_MulMod.mono _ _ _ _
   | exact LeO.none _
   | refine LeO.ite ?_ ?_
   | refine LeO.bind ?_ (fun _ => ?_)
theorem culletlaw01_awake.mono : ∀ k, LeO (culletlaw01_awake.f k ) (culletlaw01_awake.f (k + 1) ) := by
 intro  k
 have ih0 := culletlaw01_awake.mono_l k
 unfold culletlaw01_awake.f
 repeat' first
   | (with_reducible exact ih0 _)
   | (with_reducible exact ring_DivMod.mono _ _ _)
   | (with_reducible exact ring_Mul.mono _ _ _)
   | (with_reducible exact ring_MulMod.mono _ _ _ _)
   | (with_reducible exact LeO.refl _)
   | (with_reducible exact LeO.none _)
   | (with_reducible refine LeO.ite ?_ ?_)
   | (with_reducible refine LeO.bind ?_ (fun _ => ?_))
   | exact ih0 _
   | exact ring_DivMod.mono _ _ _
   | exact ring_Mul.mono _ _ _
   | exact ring_MulMod.mono _ _ _ _
   | exact LeO.none _
   | refine LeO.ite ?_ ?_
   | refine LeO.bind ?_ (fun _ => ?_)
set_option maxHeartbeats 8000000 in
set_option maxRecDepth 100000 in
theorem culletlaw01_awake.calls (k : Nat)  (r : Bool) (w : World) (h : culletlaw01_awake.f k  = some r) :
  Calls Tryd.prog 10 #[] w fun e w' => e = .returned (.bool r) ∧ Drawn0 w w' := by
 have H : ((ring_DivMod.f k 285 2).bind fun bt157 => (if bt157.1 = 142 then (if bt157.2.1 = 1 then (culletlaw01_awake.j0 k (bt157.2.2 != 0)) else (culletlaw01_awake.j0 k true)) else (culletlaw01_awake.j0 k true))) = some r := h
 clear h
 replace H := Option.bind_eq_some_iff.mp H
 obtain ⟨⟨t157, t158, t159⟩, A10, H⟩ := H
 replace H : (if t157 = 142 then (if t158 = 1 then (culletlaw01_awake.j0 k (t159 != 0)) else (culletlaw01_awake.j0 k true)) else (culletlaw01_awake.j0 k true)) = some r := H
 have A1 := Aside0.mk A10
 clear A10
 have HC2 := Aside0.mk H
 clear H
 go_enter Tryd.func10, Tryd.ntmps10
 go_upto_region 2 with (first | ((with_reducible refine gate_callee (f := 21) rfl ?_); refine goesL_ (some 7) rfl rfl Tryd.func21 (by kernel_rfl) rfl #[.int .u64 285, .int .u64 2] rfl (by (try simp only [List.map_toArray, List.map_cons, List.map_nil]); first | done | rfl | (simp only [tb_wrap8]; done) | (simp only [tb_wrap8]; rfl) | (simp only [List.length_drop, List.length_take]; rfl)) ?_; (with_reducible refine (ring_DivMod.calls k 285 2 t157 t158 t159 _ A1.out).mono ?_); rintro e w' ⟨rfl, ⟨nd, rfl⟩⟩; refine ⟨_, rfl, ?_⟩))
 (try simp only [Act.put, List.setIfInBounds_toArray, List.set_cons_zero, List.set_cons_succ])
 go_cut [20] (fun v20 wc => ∃ (kq : Nat) (x20_1 : Bool), v20 = .bool x20_1 ∧ Aside0 (culletlaw01_awake.j0 kq x20_1 = some r) ∧ Aside0 (kq ≤ k) ∧ Drawn0 w wc)
 case first =>
  have H := HC2.out
  clear HC2
  by_cases c3 : t157 = 142
  ·rw [if_pos c3] at H
   have c3b0 : (t157 == 142) = true := beq_iff_eq.mpr c3
   have c3b1 : (t157 != 142) = false := bne_eq_false_iff_eq.mpr c3
   clear c3
   (first | rw [c3b0] | (simp only [i64_w, i32_w]; rw [c3b0]) | skip)
   by_cases c4 : t158 = 1
   ·rw [if_pos c4] at H
    have c4b0 : (t158 == 1) = true := beq_iff_eq.mpr c4
    have c4b1 : (t158 != 1) = false := bne_eq_false_iff_eq.mpr c4
    clear c4
    have H' := Aside0.mk H
    clear H
    go_wp2
    go_meet
    case rel => exact ⟨_, ((t159 != 0)), (by first | rfl | (simp; done) | (simp [*]; done)), H', ⟨by first | omega | exact Nat.le_refl _⟩, by repeat (first | exact Drawn0.refl _ | apply Drawn0.step)⟩
   ·rw [if_neg c4] at H
    have c4b0 : (t158 == 1) = false := beq_eq_false_iff_ne.mpr c4
    have c4b1 : (t158 != 1) = true := bne_iff_ne.mpr c4
    have H' := Aside0.mk H
    clear H
    go_wp2
    go_meet
    case rel => exact ⟨_, (true), (by first | rfl | (simp; done) | (simp [*]; done)), H', ⟨by first | omega | exact Nat.le_refl _⟩, by repeat (first | exact Drawn0.refl _ | apply Drawn0.step)⟩
  ·rw [if_neg c3] at H
   have c3b0 : (t157 == 142) = false := beq_eq_false_iff_ne.mpr c3
   have c3b1 : (t157 != 142) = true := bne_iff_ne.mpr c3
   (first | rw [c3b0] | (simp only [i64_w, i32_w]; rw [c3b0]) | skip)
   have H' := Aside0.mk H
   clear H
   go_wp2
   go_meet
   case rel => exact ⟨_, (true), (by first | rfl | (simp; done) | (simp [*]; done)), H', ⟨by first | omega | exact Nat.le_refl _⟩, by repeat (first | exact Drawn0.refl _ | apply Drawn0.step)⟩
 case rest =>
  clear HC2
  try clear c1
  try clear c2
  try clear p2
  try clear c3
  try clear c3b0
  try clear c3b1
  try clear c4
  try clear c4b0
  try clear c4b1
  obtain ⟨kq, x20_1, rfl, HA, HJ1, ⟨mc1, rfl⟩⟩ := hcut
  cases kq with
  | zero => exact absurd HA.out (by simp [culletlaw01_awake.j0])
  | succ kj1 =>
   have H := HA.out
   clear HA
   simp only [culletlaw01_awake.j0] at H
   by_cases c5 : x20_1 = true
   ·subst c5
    have H1 : (some false) = some r := by rw [if_pos rfl] at H; exact H
    clear H
    have H := H1
    clear H1
    obtain rfl := Option.some.inj H
    go_wp2
    go_ret
    exact ⟨by first | rfl | (simp; done) | (simp [*]; done), by repeat (first | exact Drawn0.refl _ | apply Drawn0.step)⟩
   ·replace c5 := Bool.eq_false_iff.mpr c5
    subst c5
    have H1 : ((ring_MulMod.f kj1 128 2 285).bind fun bt160 => (if bt160.1 = 29 then (if bt160.2 = 0 then ((ring_Degree.f 5).bind fun t162 => (if t162 = 2 then ((ring_Mul.f kj1 3 3).bind fun t163 => (some (t163 == 5))) else (some false))) else (some false)) else (some false))) = some r := by rw [if_neg (show ¬ (false = true) by decide)] at H; exact H
    clear H
    have H := H1
    clear H1
    replace H := Option.bind_eq_some_iff.mp H
    obtain ⟨⟨t160, t161⟩, A60, H⟩ := H
    replace H : (if t160 = 29 then (if t161 = 0 then ((ring_Degree.f 5).bind fun t162 => (if t162 = 2 then ((ring_Mul.f kj1 3 3).bind fun t163 => (some (t163 == 5))) else (some false))) else (some false)) else (some false)) = some r := H
    have A6 := Aside0.mk A60
    clear A60
    by_cases c7 : t160 = 29
    ·rw [if_pos c7] at H
     have c7b0 : (t160 == 29) = true := beq_iff_eq.mpr c7
     have c7b1 : (t160 != 29) = false := bne_eq_false_iff_eq.mpr c7
     clear c7
     by_cases c8 : t161 = 0
     ·rw [if_pos c8] at H
      have c8b0 : (t161 == 0) = true := beq_iff_eq.mpr c8
      have c8b1 : (t161 != 0) = false := bne_eq_false_iff_eq.mpr c8
      clear c8
      replace H := Option.bind_eq_some_iff.mp H
      obtain ⟨t162, A90, H⟩ := H
      replace H : (if t162 = 2 then ((ring_Mul.f kj1 3 3).bind fun t163 => (some (t163 == 5))) else (some false)) = some r := H
      have A9 := Aside0.mk A90
      clear A90
      by_cases c10 : t162 = 2
      ·rw [if_pos c10] at H
       have c10b0 : (t162 == 2) = true := beq_iff_eq.mpr c10
       have c10b1 : (t162 != 2) = false := bne_eq_false_iff_eq.mpr c10
       clear c10
       replace H := Option.bind_eq_some_iff.mp H
       obtain ⟨t163, A110, H⟩ := H
       replace H : (some (t163 == 5)) = some r := H
       have A11 := Aside0.mk A110
       clear A110
       obtain rfl := Option.some.inj H
       go_wp2_with (first | ((with_reducible refine gate_callee (f := 23) rfl ?_); refine goesL_ (some 22) rfl rfl Tryd.func23 (by kernel_rfl) rfl #[.int .u64 128, .int .u64 2, .int .u64 285] rfl (by (try simp only [List.map_toArray, List.map_cons, List.map_nil]); first | done | rfl | (simp only [tb_wrap8]; done) | (simp only [tb_wrap8]; rfl) | (simp only [List.length_drop, List.length_take]; rfl)) ?_; (with_reducible refine (ring_MulMod.calls kj1 128 2 285 t160 t161 _ A6.out).mono ?_); rintro e w' ⟨rfl, ⟨nd, rfl⟩⟩; refine ⟨_, rfl, ?_⟩) | (go_at_call 17; (with_reducible refine (ring_Degree.calls 5 t162 _ A9.out).mono ?_); rintro e w' ⟨rfl, ⟨nd, rfl⟩⟩) | (go_at_call 19; (with_reducible refine (ring_Mul.calls kj1 3 3 t163 _ A11.out).mono ?_); rintro e w' ⟨rfl, ⟨nd, rfl⟩⟩))
       go_ret
       exact ⟨by first | rfl | (simp; done) | (simp [*]; done), by repeat (first | exact Drawn0.refl _ | apply Drawn0.step)⟩
      ·rw [if_neg c10] at H
       have c10b0 : (t162 == 2) = false := beq_eq_false_iff_ne.mpr c10
       have c10b1 : (t162 != 2) = true := bne_iff_ne.mpr c10
       obtain rfl := Option.some.inj H
       go_wp2_with (first | ((with_reducible refine gate_callee (f := 23) rfl ?_); refine goesL_ (some 22) rfl rfl Tryd.func23 (by kernel_rfl) rfl #[.int .u64 128, .int .u64 2, .int .u64 285] rfl (by (try simp only [List.map_toArray, List.map_cons, List.map_nil]); first | done | rfl | (simp only [tb_wrap8]; done) | (simp only [tb_wrap8]; rfl) | (simp only [List.length_drop, List.length_take]; rfl)) ?_; (with_reducible refine (ring_MulMod.calls kj1 128 2 285 t160 t161 _ A6.out).mono ?_); rintro e w' ⟨rfl, ⟨nd, rfl⟩⟩; refine ⟨_, rfl, ?_⟩) | (go_at_call 17; (with_reducible refine (ring_Degree.calls 5 t162 _ A9.out).mono ?_); rintro e w' ⟨rfl, ⟨nd, rfl⟩⟩))
       go_ret
       exact ⟨by first | rfl | (simp; done) | (simp [*]; done), by repeat (first | exact Drawn0.refl _ | apply Drawn0.step)⟩
     ·rw [if_neg c8] at H
      have c8b0 : (t161 == 0) = false := beq_eq_false_iff_ne.mpr c8
      have c8b1 : (t161 != 0) = true := bne_iff_ne.mpr c8
      obtain rfl := Option.some.inj H
      go_wp2_with (first | ((with_reducible refine gate_callee (f := 23) rfl ?_); refine goesL_ (some 22) rfl rfl Tryd.func23 (by kernel_rfl) rfl #[.int .u64 128, .int .u64 2, .int .u64 285] rfl (by (try simp only [List.map_toArray, List.map_cons, List.map_nil]); first | done | rfl | (simp only [tb_wrap8]; done) | (simp only [tb_wrap8]; rfl) | (simp only [List.length_drop, List.length_take]; rfl)) ?_; (with_reducible refine (ring_MulMod.calls kj1 128 2 285 t160 t161 _ A6.out).mono ?_); rintro e w' ⟨rfl, ⟨nd, rfl⟩⟩; refine ⟨_, rfl, ?_⟩))
      go_ret
      exact ⟨by first | rfl | (simp; done) | (simp [*]; done), by repeat (first | exact Drawn0.refl _ | apply Drawn0.step)⟩
    ·rw [if_neg c7] at H
     have c7b0 : (t160 == 29) = false := beq_eq_false_iff_ne.mpr c7
     have c7b1 : (t160 != 29) = true := bne_iff_ne.mpr c7
     obtain rfl := Option.some.inj H
     go_wp2_with (first | ((with_reducible refine gate_callee (f := 23) rfl ?_); refine goesL_ (some 22) rfl rfl Tryd.func23 (by kernel_rfl) rfl #[.int .u64 128, .int .u64 2, .int .u64 285] rfl (by (try simp only [List.map_toArray, List.map_cons, List.map_nil]); first | done | rfl | (simp only [tb_wrap8]; done) | (simp only [tb_wrap8]; rfl) | (simp only [List.length_drop, List.length_take]; rfl)) ?_; (with_reducible refine (ring_MulMod.calls kj1 128 2 285 t160 t161 _ A6.out).mono ?_); rintro e w' ⟨rfl, ⟨nd, rfl⟩⟩; refine ⟨_, rfl, ?_⟩))
     go_ret
     exact ⟨by first | rfl | (simp; done) | (simp [*]; done), by repeat (first | exact Drawn0.refl _ | apply Drawn0.step)⟩

end Go.Proofs.YthldahaimcdejaaDoor.A
end
section
-- Printed for this claim by mp.py, a program of its prover, through the kit's print. Lean checks it.
namespace Go.Proofs.YthldahaimcdejaaDoor.A
open Go.RowKit Go.Proofs.YthldahaimcdejaaDoorW.PrintWords Go.Proofs.YthldahaimcdejaaDoorW.PrintLast Go.Proofs.YthldahaimcdejaaDoorW.PrintMore
attribute [local go_sem] max2_int min2_int max_two min_two max_three min_three max_four min_four   -- for this text's walks alone
set_option linter.unusedVariables false
set_option linter.unusedSimpArgs false

/-! ### culletref01_Degree: function 18 -/
def culletref01_Degree.l0 : Nat → Int → Int → Option (Int)
 | 0, _, _ => none
 | k + 1, x0, x3 => if x0 > 0 then (culletref01_Degree.l0 k (IntKind.u64.wrap (Int.tdiv x0 2)) (wrap64 (x3 + 1))) else (some x3)
def culletref01_Degree.f (k : Nat) (a0 : Int) : Option (Int) := culletref01_Degree.l0 k a0 (-1)
theorem culletref01_Degree.mono_l : ∀ k, (∀ y0 y1, LeO (culletref01_Degree.l0 k y0 y1) (culletref01_Degree.l0 (k + 1) y0 y1))
 | 0 => fun _ _ r h => by simp [culletref01_Degree.l0] at h
 | k + 1 => by
  have ih0 := culletref01_Degree.mono_l k
  ·intro y0 y1
   unfold culletref01_Degree.l0
   repeat' first
   | (with_reducible exact ih0 _ _)
   | (with_reducible exact LeO.refl _)
   | (with_reducible exact LeO.none _)
   | (with_reducible refine LeO.ite ?_ ?_)
   | (with_reducible refine LeO.bind ?_ (fun _ => ?_))
   | exact ih0 _ _
   | exact LeO.none _
   | refine LeO.ite ?_ ?_
   | refine LeO.bind ?_ (fun _ => ?_)
theorem culletref01_Degree.mono : ∀ a0 k, LeO (culletref01_Degree.f k a0) (culletref01_Degree.f (k + 1) a0) := by
 intro a0 k
 have ih0 := culletref01_Degree.mono_l k
 unfold culletref01_Degree.f
 repeat' first
   | (with_reducible exact ih0 _ _)
   | (with_reducible exact LeO.refl _)
   | (with_reducible exact LeO.none _)
   | (with_reducible refine LeO.ite ?_ ?_)
   | (with_reducible refine LeO.bind ?_ (fun _ => ?_))
   | exact ih0 _ _
   | exact LeO.none _
   | refine LeO.ite ?_ ?_
   | refine LeO.bind ?_ (fun _ => ?_)
set_option maxHeartbeats 8000000 in
set_option maxRecDepth 100000 in
theorem culletref01_Degree.calls (k : Nat) (a0 : Int) (r : Int) (w : World) (h : culletref01_Degree.f k a0 = some r) :
  Calls Tryd.prog 18 #[.int .u64 a0] w fun e w' => e = .returned (.int .i64 r) ∧ Drawn0 w w' := by
 have H : (culletref01_Degree.l0 k a0 (-1)) = some r := h
 clear h
 have H' := Aside0.mk H
 clear H
 go_enter Tryd.func18, Tryd.ntmps18
 go_wp2
 go_loopg [0, 3] k (fun kq v0 v3 w' => ∃ (x0_1 : Int) (x3_1 : Int), v0 = .int .u64 x0_1 ∧ v3 = .int .i64 x3_1 ∧ Aside0 (culletref01_Degree.l0 kq x0_1 x3_1 = some r) ∧ Aside0 (kq ≤ k) ∧ Drawn0 w w')
 case atStart => exact ⟨(a0), ((-1)), (by first | rfl | (simp; done) | (simp [*]; done)), (by first | rfl | (simp; done) | (simp [*]; done)), H', ⟨Nat.le_refl _⟩, by repeat (first | exact Drawn0.refl _ | apply Drawn0.step)⟩
 case round =>
  clear H'
  try clear c1
  obtain ⟨x0_1, x3_1, rfl, rfl, HA, HK1, ⟨m1, rfl⟩⟩ := hrel
  cases gk with
  | zero => exact absurd HA.out (by simp [culletref01_Degree.l0])
  | succ k1 =>
   have H := HA.out
   clear HA
   simp only [culletref01_Degree.l0] at H
   by_cases c2 : x0_1 > 0
   ·rw [if_pos c2] at H
    have c2b0 : decide (0 < x0_1) = true := decide_eq_true c2
    clear c2
    have H' := Aside0.mk H
    clear H
    go_wp2
    go_roundg k1
    case measure => have := HK1.out; omega
    case rel => exact ⟨(IntKind.u64.wrap (Int.tdiv x0_1 2)), (wrap64 (x3_1 + 1)), (by first | rfl | (simp; done) | (simp [*]; done)), (by first | rfl | (simp; done) | (simp [*]; done)), H', ⟨by have := HK1.out; omega⟩, by repeat (first | exact Drawn0.refl _ | apply Drawn0.step)⟩
   ·rw [if_neg c2] at H
    have c2b0 : decide (0 < x0_1) = false := decide_eq_false c2
    clear c2
    obtain rfl := Option.some.inj H
    go_wp2
    go_ret
    exact ⟨by first | rfl | (simp; done) | (simp [*]; done), by repeat (first | exact Drawn0.refl _ | apply Drawn0.step)⟩

/-! ### culletref01_rest: function 60 -/
def culletref01_rest.l0 : Nat → Int → Int → Int → Int → Option (Int)
 | 0, _, _, _, _ => none
 | k + 1, x0, x1, x5, x6 => if x6 ≥ x5 then (if 0 ≤ (IntKind.u64.wrap (x6)) then (if (Go.bits .and .u64 (shr .u64 x0 (IntKind.u64.wrap (x6))) 1) = 1 then (if 0 ≤ (IntKind.u64.wrap (wrap64 (x6 - x5))) then (culletref01_rest.l0 k (Go.bits .xor .u64 x0 (shl .u64 x1 (IntKind.u64.wrap (wrap64 (x6 - x5))))) x1 x5 (wrap64 (x6 - 1))) else (none)) else (culletref01_rest.l0 k x0 x1 x5 (wrap64 (x6 - 1)))) else (none)) else (some x0)
def culletref01_rest.f (k : Nat) (a0 : Int) (a1 : Int) : Option (Int) := (culletref01_Degree.f k a1).bind fun t164 => ((culletref01_Degree.f k a0).bind fun t165 => (culletref01_rest.l0 k a0 a1 t164 t165))
theorem culletref01_rest.mono_l : ∀ k, (∀ y0 y1 y2 y3, LeO (culletref01_rest.l0 k y0 y1 y2 y3) (culletref01_rest.l0 (k + 1) y0 y1 y2 y3))
 | 0 => fun _ _ _ _ r h => by simp [culletref01_rest.l0] at h
 | k + 1 => by
  have ih0 := culletref01_rest.mono_l k
  ·intro y0 y1 y2 y3
   unfold culletref01_rest.l0
   repeat' first
   | (with_reducible exact ih0 _ _ _ _)
   | (with_reducible exact culletref01_Degree.mono _ _)
   | (with_reducible exact LeO.refl _)
   | (with_reducible exact LeO.none _)
   | (with_reducible refine LeO.ite ?_ ?_)
   | (with_reducible refine LeO.bind ?_ (fun _ => ?_))
   | exact ih0 _ _ _ _
   | exact culletref01_Degree.mono _ _
   | exact LeO.none _
   | refine LeO.ite ?_ ?_
   | refine LeO.bind ?_ (fun _ => ?_)
theorem culletref01_rest.mono : ∀ a0 a1 k, LeO (culletref01_rest.f k a0 a1) (culletref01_rest.f (k + 1) a0 a1) := by
 intro a0 a1 k
 have ih0 := culletref01_rest.mono_l k
 unfold culletref01_rest.f
 repeat' first
   | (with_reducible exact ih0 _ _ _ _)
   | (with_reducible exact culletref01_Degree.mono _ _)
   | (with_reducible exact LeO.refl _)
   | (with_reducible exact LeO.none _)
   | (with_reducible refine LeO.ite ?_ ?_)
   | (with_reducible refine LeO.bind ?_ (fun _ => ?_))
   | exact ih0 _ _ _ _
   | exact culletref01_Degree.mono _ _
   | exact LeO.none _
   | refine LeO.ite ?_ ?_
   | refine LeO.bind ?_ (fun _ => ?_)
set_option maxHeartbeats 8000000 in
set_option maxRecDepth 100000 in
theorem culletref01_rest.calls (k : Nat) (a0 : Int) (a1 : Int) (r : Int) (w : World) (h : culletref01_rest.f k a0 a1 = some r) :
  Calls Tryd.prog 60 #[.int .u64 a0, .int .u64 a1] w fun e w' => e = .returned (.int .u64 r) ∧ Drawn0 w w' := by
 have H : ((culletref01_Degree.f k a1).bind fun t164 => ((culletref01_Degree.f k a0).bind fun t165 => (culletref01_rest.l0 k a0 a1 t164 t165))) = some r := h
 clear h
 replace H := Option.bind_eq_some_iff.mp H
 obtain ⟨t164, A30, H⟩ := H
 replace H : ((culletref01_Degree.f k a0).bind fun t165 => (culletref01_rest.l0 k a0 a1 t164 t165)) = some r := H
 have A3 := Aside0.mk A30
 clear A30
 replace H := Option.bind_eq_some_iff.mp H
 obtain ⟨t165, A40, H⟩ := H
 replace H : (culletref01_rest.l0 k a0 a1 t164 t165) = some r := H
 have A4 := Aside0.mk A40
 clear A40
 have H' := Aside0.mk H
 clear H
 go_enter Tryd.func60, Tryd.ntmps60
 go_wp2_with (first | ((with_reducible refine gate_callee (f := 18) rfl ?_); refine goesL_ (some 8) rfl rfl Tryd.func18 (by kernel_rfl) rfl #[.int .u64 a1] rfl (by (try simp only [List.map_toArray, List.map_cons, List.map_nil]); first | done | rfl | (simp only [tb_wrap8]; done) | (simp only [tb_wrap8]; rfl) | (simp only [List.length_drop, List.length_take]; rfl)) ?_; (with_reducible refine (culletref01_Degree.calls k a1 t164 _ A3.out).mono ?_); rintro e w' ⟨rfl, ⟨nd, rfl⟩⟩; refine ⟨_, rfl, ?_⟩) | ((with_reducible refine gate_callee (f := 18) rfl ?_); refine goesL_ (some 10) rfl rfl Tryd.func18 (by kernel_rfl) rfl #[.int .u64 a0] rfl (by (try simp only [List.map_toArray, List.map_cons, List.map_nil]); first | done | rfl | (simp only [tb_wrap8]; done) | (simp only [tb_wrap8]; rfl) | (simp only [List.length_drop, List.length_take]; rfl)) ?_; (with_reducible refine (culletref01_Degree.calls k a0 t165 _ A4.out).mono ?_); rintro e w' ⟨rfl, ⟨nd, rfl⟩⟩; refine ⟨_, rfl, ?_⟩))
 go_loopg [0, 6] k (fun kq v0 v6 w' => ∃ (x0_1 : Int) (x6_1 : Int), v0 = .int .u64 x0_1 ∧ v6 = .int .i64 x6_1 ∧ Aside0 (culletref01_rest.l0 kq x0_1 a1 t164 x6_1 = some r) ∧ Aside0 (kq ≤ k) ∧ Drawn0 w w')
 case atStart => exact ⟨(a0), (t165), (by first | rfl | (simp; done) | (simp [*]; done)), (by first | rfl | (simp; done) | (simp [*]; done)), H', ⟨Nat.le_refl _⟩, by repeat (first | exact Drawn0.refl _ | apply Drawn0.step)⟩
 case round =>
  clear H'
  try clear c1
  try clear p2
  obtain ⟨x0_1, x6_1, rfl, rfl, HA, HK1, ⟨m1, rfl⟩⟩ := hrel
  cases gk with
  | zero => exact absurd HA.out (by simp [culletref01_rest.l0])
  | succ k1 =>
   have H := HA.out
   clear HA
   simp only [culletref01_rest.l0] at H
   by_cases c5 : x6_1 ≥ t164
   ·rw [if_pos c5] at H
    have c5b0 : decide (t164 ≤ x6_1) = true := decide_eq_true c5
    clear c5
    obtain ⟨ji6, hji6⟩ : ∃ j_ : Int, (IntKind.u64.wrap (x6_1)) = j_ := ⟨_, rfl⟩
    replace H : (if 0 ≤ (ji6) then (if (Go.bits .and .u64 (shr .u64 x0_1 (ji6)) 1) = 1 then (if 0 ≤ (IntKind.u64.wrap (wrap64 (x6_1 - t164))) then (culletref01_rest.l0 k1 (Go.bits .xor .u64 x0_1 (shl .u64 a1 (IntKind.u64.wrap (wrap64 (x6_1 - t164))))) a1 t164 (wrap64 (x6_1 - 1))) else (none)) else (culletref01_rest.l0 k1 x0_1 a1 t164 (wrap64 (x6_1 - 1)))) else (none)) = some r := by first | (rw [hji6] at H; exact H) | (simp only [hji6] at H ⊢; exact H)
    by_cases c7 : 0 ≤ (ji6)
    ·rw [if_pos c7] at H
     have c7b0 := eq_true c7
     have c7b1 : decide (0 ≤ (ji6)) = true := decide_eq_true c7
     clear c7
     obtain ⟨ji8, hji8⟩ : ∃ j_ : Int, (shr .u64 x0_1 (ji6)) = j_ := ⟨_, rfl⟩
     replace H : (if (Go.bits .and .u64 (ji8) 1) = 1 then (if 0 ≤ (IntKind.u64.wrap (wrap64 (x6_1 - t164))) then (culletref01_rest.l0 k1 (Go.bits .xor .u64 x0_1 (shl .u64 a1 (IntKind.u64.wrap (wrap64 (x6_1 - t164))))) a1 t164 (wrap64 (x6_1 - 1))) else (none)) else (culletref01_rest.l0 k1 x0_1 a1 t164 (wrap64 (x6_1 - 1)))) = some r := by first | (rw [hji8] at H; exact H) | (simp only [hji8] at H ⊢; exact H)
     have hji8_ : (x0_1 / 2 ^ min (ji6).toNat 64) = ji8 := hji8
     have hji8z : (ji6) ≤ 64 → (x0_1 / 2 ^ (ji6).toNat) = ji8 := shr_small hji8
     by_cases c9 : (Go.bits .and .u64 (ji8) 1) = 1
     ·rw [if_pos c9] at H
      have c9b0 : ((Go.bits .and .u64 (ji8) 1) == 1) = true := beq_iff_eq.mpr c9
      have c9b1 : ((Go.bits .and .u64 (ji8) 1) != 1) = false := bne_eq_false_iff_eq.mpr c9
      clear c9
      obtain ⟨ji10, hji10⟩ : ∃ j_ : Int, (IntKind.u64.wrap (wrap64 (x6_1 - t164))) = j_ := ⟨_, rfl⟩
      replace H : (if 0 ≤ (ji10) then (culletref01_rest.l0 k1 (Go.bits .xor .u64 x0_1 (shl .u64 a1 (ji10))) a1 t164 (wrap64 (x6_1 - 1))) else (none)) = some r := by first | (rw [hji10] at H; exact H) | (simp only [hji10] at H ⊢; exact H)
      by_cases c11 : 0 ≤ (ji10)
      ·rw [if_pos c11] at H
       have c11b0 := eq_true c11
       have c11b1 : decide (0 ≤ (ji10)) = true := decide_eq_true c11
       clear c11
       obtain ⟨ji12, hji12⟩ : ∃ j_ : Int, (shl .u64 a1 (ji10)) = j_ := ⟨_, rfl⟩
       replace H : (culletref01_rest.l0 k1 (Go.bits .xor .u64 x0_1 (ji12)) a1 t164 (wrap64 (x6_1 - 1))) = some r := by first | (rw [hji12] at H; exact H) | (simp only [hji12] at H ⊢; exact H)
       have hji12_ : (IntKind.u64.wrap (a1 * 2 ^ min (ji10).toNat 64)) = ji12 := hji12
       have hji12z : (ji10) ≤ 64 → (IntKind.u64.wrap (a1 * 2 ^ (ji10).toNat)) = ji12 := shl_small hji12
       have H' := Aside0.mk H
       clear H
       go_wp2
       go_roundg k1
       case measure => have := HK1.out; omega
       case rel => exact ⟨(Go.bits .xor .u64 x0_1 (ji12)), (wrap64 (x6_1 - 1)), (by first | rfl | (simp; done) | (simp only [← hji12] <;> (first | rfl | simp)) | (simp [*]; done)), (by first | rfl | (simp; done) | (simp [*]; done)), H', ⟨by have := HK1.out; omega⟩, by repeat (first | exact Drawn0.refl _ | apply Drawn0.step)⟩
      ·rw [if_neg c11] at H
       exact absurd H (by simp)
     ·rw [if_neg c9] at H
      have c9b0 : ((Go.bits .and .u64 (ji8) 1) == 1) = false := beq_eq_false_iff_ne.mpr c9
      have c9b1 : ((Go.bits .and .u64 (ji8) 1) != 1) = true := bne_iff_ne.mpr c9
      have H' := Aside0.mk H
      clear H
      go_wp2
      go_roundg k1
      case measure => have := HK1.out; omega
      case rel => exact ⟨(x0_1), (wrap64 (x6_1 - 1)), (by first | rfl | (simp; done) | (simp [*]; done)), (by first | rfl | (simp; done) | (simp [*]; done)), H', ⟨by have := HK1.out; omega⟩, by repeat (first | exact Drawn0.refl _ | apply Drawn0.step)⟩
    ·rw [if_neg c7] at H
     exact absurd H (by simp)
   ·rw [if_neg c5] at H
    have c5b0 : decide (t164 ≤ x6_1) = false := decide_eq_false c5
    clear c5
    obtain rfl := Option.some.inj H
    go_wp2
    go_ret
    exact ⟨by first | rfl | (simp; done) | (simp [*]; done), by repeat (first | exact Drawn0.refl _ | apply Drawn0.step)⟩

end Go.Proofs.YthldahaimcdejaaDoor.A
end
section
-- Printed for this claim by mp.py, a program of its prover, through the kit's print. Lean checks it.
namespace Go.Proofs.YthldahaimcdejaaDoor.A
open Go.RowKit Go.Proofs.YthldahaimcdejaaDoorW.PrintWords Go.Proofs.YthldahaimcdejaaDoorW.PrintLast Go.Proofs.YthldahaimcdejaaDoorW.PrintMore
attribute [local go_sem] max2_int min2_int max_two min_two max_three min_three max_four min_four   -- for this text's walks alone
set_option linter.unusedVariables false
set_option linter.unusedSimpArgs false

/-! ### culletref01_Gcd: function 25 -/
mutual
def culletref01_Gcd.j1 : Nat → Int → Int → Int → Option (Int)
 | 0, _, _, _ => none
 | k + 1, x0, x1, x5 => culletref01_Gcd.l1 k x0 x1 x5
def culletref01_Gcd.l1 : Nat → Int → Int → Int → Option (Int)
 | 0, _, _, _ => none
 | k + 1, x0, x1, x5 => if x0 = 0 then (if 0 ≤ (IntKind.u64.wrap (x5)) then (some (shl .u64 x1 (IntKind.u64.wrap (x5)))) else (none)) else (culletref01_Gcd.l2 k x0 x1 x5)
def culletref01_Gcd.l2 : Nat → Int → Int → Int → Option (Int)
 | 0, _, _, _ => none
 | k + 1, x0, x1, x5 => if (Int.tmod x0 2) = 0 then (culletref01_Gcd.l2 k (IntKind.u64.wrap (Int.tdiv x0 2)) x1 x5) else (culletref01_Gcd.l3 k x0 x1 x5)
def culletref01_Gcd.l3 : Nat → Int → Int → Int → Option (Int)
 | 0, _, _, _ => none
 | k + 1, x0, x1, x5 => if (Int.tmod x1 2) = 0 then (culletref01_Gcd.l3 k x0 (IntKind.u64.wrap (Int.tdiv x1 2)) x5) else ((culletref01_Degree.f k x0).bind fun t166 => ((culletref01_Degree.f k x1).bind fun t167 => (if t166 ≥ t167 then (culletref01_Gcd.l1 k (Go.bits .xor .u64 x0 x1) x1 x5) else (culletref01_Gcd.l1 k x0 (Go.bits .xor .u64 x1 x0) x5))))
def culletref01_Gcd.l0 : Nat → Int → Int → Int → Option (Int)
 | 0, _, _, _ => none
 | k + 1, x0, x1, x5 => if (Int.tmod x0 2) = 0 then (if (Int.tmod x1 2) = 0 then (culletref01_Gcd.l0 k (IntKind.u64.wrap (Int.tdiv x0 2)) (IntKind.u64.wrap (Int.tdiv x1 2)) (wrap64 (x5 + 1))) else (culletref01_Gcd.j1 k x0 x1 x5)) else (culletref01_Gcd.j1 k x0 x1 x5)
end
def culletref01_Gcd.f (k : Nat) (a0 : Int) (a1 : Int) : Option (Int) := if a0 = 0 then (some a1) else (if a1 = 0 then (some a0) else (culletref01_Gcd.l0 k a0 a1 0))
theorem culletref01_Gcd.mono_l : ∀ k, (∀ y0 y1 y2, LeO (culletref01_Gcd.j1 k y0 y1 y2) (culletref01_Gcd.j1 (k + 1) y0 y1 y2)) ∧ (∀ y0 y1 y2, LeO (culletref01_Gcd.l1 k y0 y1 y2) (culletref01_Gcd.l1 (k + 1) y0 y1 y2)) ∧ (∀ y0 y1 y2, LeO (culletref01_Gcd.l2 k y0 y1 y2) (culletref01_Gcd.l2 (k + 1) y0 y1 y2)) ∧ (∀ y0 y1 y2, LeO (culletref01_Gcd.l3 k y0 y1 y2) (culletref01_Gcd.l3 (k + 1) y0 y1 y2)) ∧ (∀ y0 y1 y2, LeO (culletref01_Gcd.l0 k y0 y1 y2) (culletref01_Gcd.l0 (k + 1) y0 y1 y2))
 | 0 => ⟨fun _ _ _ r h => by simp [culletref01_Gcd.j1] at h, fun _ _ _ r h => by simp [culletref01_Gcd.l1] at h, fun _ _ _ r h => by simp [culletref01_Gcd.l2] at h, fun _ _ _ r h => by simp [culletref01_Gcd.l3] at h, fun _ _ _ r h => by simp [culletref01_Gcd.l0] at h⟩
 | k + 1 => by
  obtain ⟨ih0, ih1, ih2, ih3, ih4⟩ := culletref01_Gcd.mono_l k
  refine ⟨?_, ?_, ?_, ?_, ?_⟩
  ·intro y0 y1 y2
   unfold culletref01_Gcd.j1
   repeat' first
   | (with_reducible exact ih0 _ _ _)
   | (with_reducible exact ih1 _ _ _)
   | (with_reducible exact ih2 _ _ _)
   | (with_reducible exact ih3 _ _ _)
   | (with_reducible exact ih4 _ _ _)
   | (with_reducible exact culletref01_Degree.mono _ _)
   | (with_reducible exact LeO.refl _)
   | (with_reducible exact LeO.none _)
   | (with_reducible refine LeO.ite ?_ ?_)
   | (with_reducible refine LeO.bind ?_ (fun _ => ?_))
   | exact ih0 _ _ _
   | exact ih1 _ _ _
   | exact ih2 _ _ _
   | exact ih3 _ _ _
   | exact ih4 _ _ _
   | exact culletref01_Degree.mono _ _
   | exact LeO.none _
   | refine LeO.ite ?_ ?_
   | refine LeO.bind ?_ (fun _ => ?_)
  ·intro y0 y1 y2
   unfold culletref01_Gcd.l1
   repeat' first
   | (with_reducible exact ih0 _ _ _)
   | (with_reducible exact ih1 _ _ _)
   | (with_reducible exact ih2 _ _ _)
   | (with_reducible exact ih3 _ _ _)
   | (with_reducible exact ih4 _ _ _)
   | (with_reducible exact culletref01_Degree.mono _ _)
   | (with_reducible exact LeO.refl _)
   | (with_reducible exact LeO.none _)
   | (with_reducible refine LeO.ite ?_ ?_)
   | (with_reducible refine LeO.bind ?_ (fun _ => ?_))
   | exact ih0 _ _ _
   | exact ih1 _ _ _
   | exact ih2 _ _ _
   | exact ih3 _ _ _
   | exact ih4 _ _ _
   | exact culletref01_Degree.mono _ _
   | exact LeO.none _
   | refine LeO.ite ?_ ?_
   | refine LeO.bind ?_ (fun _ => ?_)
  ·intro y0 y1 y2
   unfold culletref01_Gcd.l2
   repeat' first
   | (with_reducible exact ih0 _ _ _)
   | (with_reducible exact ih1 _ _ _)
   | (with_reducible exact ih2 _ _ _)
   | (with_reducible exact ih3 _ _ _)
   | (with_reducible exact ih4 _ _ _)
   | (with_reducible exact culletref01_Degree.mono _ _)
   | (with_reducible exact LeO.refl _)
   | (with_reducible exact LeO.none _)
   | (with_reducible refine LeO.ite ?_ ?_)
   | (with_reducible refine LeO.bind ?_ (fun _ => ?_))
   | exact ih0 _ _ _
   | exact ih1 _ _ _
   | exact ih2 _ _ _
   | exact ih3 _ _ _
   | exact ih4 _ _ _
   | exact culletref01_Degree.mono _ _
   | exact LeO.none _
   | refine LeO.ite ?_ ?_
   | refine LeO.bind ?_ (fun _ => ?_)
  ·intro y0 y1 y2
   unfold culletref01_Gcd.l3
   repeat' first
   | (with_reducible exact ih0 _ _ _)
   | (with_reducible exact ih1 _ _ _)
   | (with_reducible exact ih2 _ _ _)
   | (with_reducible exact ih3 _ _ _)
   | (with_reducible exact ih4 _ _ _)
   | (with_reducible exact culletref01_Degree.mono _ _)
   | (with_reducible exact LeO.refl _)
   | (with_reducible exact LeO.none _)
   | (with_reducible refine LeO.ite ?_ ?_)
   | (with_reducible refine LeO.bind ?_ (fun _ => ?_))
   | exact ih0 _ _ _
   | exact ih1 _ _ _
   | exact ih2 _ _ _
   | exact ih3 _ _ _
   | exact ih4 _ _ _
   | exact culletref01_Degree.mono _ _
   | exact LeO.none _
   | refine LeO.ite ?_ ?_
   | refine LeO.bind ?_ (fun _ => ?_)
  ·intro y0 y1 y2
   unfold culletref01_Gcd.l0
   repeat' first
   | (with_reducible exact ih0 _ _ _)
   | (with_reducible exact ih1 _ _ _)
   | (with_reducible exact ih2 _ _ _)
   | (with_reducible exact ih3 _ _ _)
   | (with_reducible exact ih4 _ _ _)
   | (with_reducible exact culletref01_Degree.mono _ _)
   | (with_reducible exact LeO.refl _)
   | (with_reducible exact LeO.none _)
   | (with_reducible refine LeO.ite ?_ ?_)
   | (with_reducible refine LeO.bind ?_ (fun _ => ?_))
   | exact ih0 _ _ _
   | exact ih1 _ _ _
   | exact ih2 _ _ _
   | exact ih3 _ _ _
   | exact ih4 _ _ _
   | exact culletref01_Degree.mono _ _
   | exact LeO.none _
   | refine LeO.ite ?_ ?_
   | refine LeO.bind ?_ (fun _ => ?_)
theorem culletref01_Gcd.mono : ∀ a0 a1 k, LeO (culletref01_Gcd.f k a0 a1) (culletref01_Gcd.f (k + 1) a0 a1) := by
 intro a0 a1 k
 obtain ⟨ih0, ih1, ih2, ih3, ih4⟩ := culletref01_Gcd.mono_l k
 unfold culletref01_Gcd.f
 repeat' first
   | (with_reducible exact ih0 _ _ _)
   | (with_reducible exact ih1 _ _ _)
   | (with_reducible exact ih2 _ _ _)
   | (with_reducible exact ih3 _ _ _)
   | (with_reducible exact ih4 _ _ _)
   | (with_reducible exact culletref01_Degree.mono _ _)
   | (with_reducible exact LeO.refl _)
   | (with_reducible exact LeO.none _)
   | (with_reducible refine LeO.ite ?_ ?_)
   | (with_reducible refine LeO.bind ?_ (fun _ => ?_))
   | exact ih0 _ _ _
   | exact ih1 _ _ _
   | exact ih2 _ _ _
   | exact ih3 _ _ _
   | exact ih4 _ _ _
   | exact culletref01_Degree.mono _ _
   | exact LeO.none _
   | refine LeO.ite ?_ ?_
   | refine LeO.bind ?_ (fun _ => ?_)
set_option maxHeartbeats 8000000 in
set_option maxRecDepth 100000 in
theorem culletref01_Gcd.calls (k : Nat) (a0 : Int) (a1 : Int) (r : Int) (w : World) (h : culletref01_Gcd.f k a0 a1 = some r) :
  Calls Tryd.prog 25 #[.int .u64 a0, .int .u64 a1] w fun e w' => e = .returned (.int .u64 r) ∧ Drawn0 w w' := by
 have H : (if a0 = 0 then (some a1) else (if a1 = 0 then (some a0) else (culletref01_Gcd.l0 k a0 a1 0))) = some r := h
 clear h
 by_cases c3 : a0 = 0
 ·rw [if_pos c3] at H
  have c3b0 : (a0 == 0) = true := beq_iff_eq.mpr c3
  have c3b1 : (a0 != 0) = false := bne_eq_false_iff_eq.mpr c3
  clear c3
  obtain rfl := Option.some.inj H
  go_enter Tryd.func25, Tryd.ntmps25
  go_wp2
  go_ret
  exact ⟨by first | rfl | (simp; done) | (simp [*]; done), by repeat (first | exact Drawn0.refl _ | apply Drawn0.step)⟩
 ·rw [if_neg c3] at H
  have c3b0 : (a0 == 0) = false := beq_eq_false_iff_ne.mpr c3
  have c3b1 : (a0 != 0) = true := bne_iff_ne.mpr c3
  by_cases c4 : a1 = 0
  ·rw [if_pos c4] at H
   have c4b0 : (a1 == 0) = true := beq_iff_eq.mpr c4
   have c4b1 : (a1 != 0) = false := bne_eq_false_iff_eq.mpr c4
   clear c4
   obtain rfl := Option.some.inj H
   go_enter Tryd.func25, Tryd.ntmps25
   go_wp2
   go_ret
   exact ⟨by first | rfl | (simp; done) | (simp [*]; done), by repeat (first | exact Drawn0.refl _ | apply Drawn0.step)⟩
  ·rw [if_neg c4] at H
   have c4b0 : (a1 == 0) = false := beq_eq_false_iff_ne.mpr c4
   have c4b1 : (a1 != 0) = true := bne_iff_ne.mpr c4
   have HC5 := Aside0.mk H
   clear H
   go_enter Tryd.func25, Tryd.ntmps25
   go_upto_block 0 with (fail)
   go_cut [0, 1, 5] (fun v0 v1 v5 wc => ∃ (kq : Nat) (x0_4 : Int) (x1_4 : Int) (x5_4 : Int), v0 = .int .u64 x0_4 ∧ v1 = .int .u64 x1_4 ∧ v5 = .int .i64 x5_4 ∧ Aside0 (culletref01_Gcd.j1 kq x0_4 x1_4 x5_4 = some r) ∧ Aside0 (kq ≤ k) ∧ Drawn0 w wc)
   case first =>
    have H := HC5.out
    clear HC5
    have H' := Aside0.mk H
    clear H
    go_wp2
    go_loopg [0, 1, 5] k (fun kq v0 v1 v5 w' => ∃ (x0_1 : Int) (x1_1 : Int) (x5_1 : Int), v0 = .int .u64 x0_1 ∧ v1 = .int .u64 x1_1 ∧ v5 = .int .i64 x5_1 ∧ Aside0 (culletref01_Gcd.l0 kq x0_1 x1_1 x5_1 = some r) ∧ Aside0 (kq ≤ k) ∧ Drawn0 w w')
    case atStart => exact ⟨(a0), (a1), (0), (by first | rfl | (simp; done) | (simp [*]; done)), (by first | rfl | (simp; done) | (simp [*]; done)), (by first | rfl | (simp; done) | (simp [*]; done)), H', ⟨Nat.le_refl _⟩, by repeat (first | exact Drawn0.refl _ | apply Drawn0.step)⟩
    case round =>
     clear H'
     try clear c2
     try clear p2
     try clear c3
     try clear c3b0
     try clear c3b1
     try clear c4
     try clear c4b0
     try clear c4b1
     obtain ⟨x0_1, x1_1, x5_1, rfl, rfl, rfl, HA, HK1, ⟨m1, rfl⟩⟩ := hrel
     cases gk with
     | zero => exact absurd HA.out (by simp [culletref01_Gcd.l0])
     | succ k1 =>
      have H := HA.out
      clear HA
      simp only [culletref01_Gcd.l0] at H
      by_cases c6 : (Int.tmod x0_1 2) = 0
      ·rw [if_pos c6] at H
       have c6b0 : ((Int.tmod x0_1 2) == 0) = true := beq_iff_eq.mpr c6
       have c6b1 : ((Int.tmod x0_1 2) != 0) = false := bne_eq_false_iff_eq.mpr c6
       clear c6
       (first | rw [c6b0] | (simp only [i64_w, i32_w]; rw [c6b0]) | skip)
       by_cases c7 : (Int.tmod x1_1 2) = 0
       ·rw [if_pos c7] at H
        have c7b0 : ((Int.tmod x1_1 2) == 0) = true := beq_iff_eq.mpr c7
        have c7b1 : ((Int.tmod x1_1 2) != 0) = false := bne_eq_false_iff_eq.mpr c7
        clear c7
        have H' := Aside0.mk H
        clear H
        go_wp2
        go_roundg k1
        case measure => have := HK1.out; omega
        case rel => exact ⟨(IntKind.u64.wrap (Int.tdiv x0_1 2)), (IntKind.u64.wrap (Int.tdiv x1_1 2)), (wrap64 (x5_1 + 1)), (by first | rfl | (simp; done) | (simp [*]; done)), (by first | rfl | (simp; done) | (simp [*]; done)), (by first | rfl | (simp; done) | (simp [*]; done)), H', ⟨by have := HK1.out; omega⟩, by repeat (first | exact Drawn0.refl _ | apply Drawn0.step)⟩
       ·rw [if_neg c7] at H
        have c7b0 : ((Int.tmod x1_1 2) == 0) = false := beq_eq_false_iff_ne.mpr c7
        have c7b1 : ((Int.tmod x1_1 2) != 0) = true := bne_iff_ne.mpr c7
        have H' := Aside0.mk H
        clear H
        go_wp2
        go_meet
        case rel => exact ⟨_, (x0_1), (x1_1), (x5_1), (by first | rfl | (simp; done) | (simp [*]; done)), (by first | rfl | (simp; done) | (simp [*]; done)), (by first | rfl | (simp; done) | (simp [*]; done)), H', ⟨by have := HK1.out; first | omega | exact Nat.le_refl _⟩, by repeat (first | exact Drawn0.refl _ | apply Drawn0.step)⟩
      ·rw [if_neg c6] at H
       have c6b0 : ((Int.tmod x0_1 2) == 0) = false := beq_eq_false_iff_ne.mpr c6
       have c6b1 : ((Int.tmod x0_1 2) != 0) = true := bne_iff_ne.mpr c6
       (first | rw [c6b0] | (simp only [i64_w, i32_w]; rw [c6b0]) | skip)
       have H' := Aside0.mk H
       clear H
       go_wp2
       go_meet
       case rel => exact ⟨_, (x0_1), (x1_1), (x5_1), (by first | rfl | (simp; done) | (simp [*]; done)), (by first | rfl | (simp; done) | (simp [*]; done)), (by first | rfl | (simp; done) | (simp [*]; done)), H', ⟨by have := HK1.out; first | omega | exact Nat.le_refl _⟩, by repeat (first | exact Drawn0.refl _ | apply Drawn0.step)⟩
   case rest =>
    clear HC5
    try clear c2
    try clear p2
    try clear c3
    try clear c3b0
    try clear c3b1
    try clear c4
    try clear c4b0
    try clear c4b1
    try clear c6
    try clear c6b0
    try clear c6b1
    try clear p6
    try clear c7
    try clear c7b0
    try clear c7b1
    try clear p2
    obtain ⟨kq, x0_4, x1_4, x5_4, rfl, rfl, rfl, HA, HJ4, ⟨mc4, rfl⟩⟩ := hcut
    cases kq with
    | zero => exact absurd HA.out (by simp [culletref01_Gcd.j1])
    | succ kj4 =>
     have H := HA.out
     clear HA
     simp only [culletref01_Gcd.j1] at H
     have H' := Aside0.mk H
     clear H
     go_wp2
     go_loopg [0, 1] kj4 (fun kq v0 v1 w' => ∃ (x0_2 : Int) (x1_2 : Int), v0 = .int .u64 x0_2 ∧ v1 = .int .u64 x1_2 ∧ Aside0 (culletref01_Gcd.l1 kq x0_2 x1_2 x5_4 = some r) ∧ Aside0 (kq ≤ kj4) ∧ Drawn0 w w')
     case atStart => exact ⟨(x0_4), (x1_4), (by first | rfl | (simp; done) | (simp [*]; done)), (by first | rfl | (simp; done) | (simp [*]; done)), H', ⟨Nat.le_refl _⟩, by repeat (first | exact Drawn0.refl _ | apply Drawn0.step)⟩
     case round =>
      clear H'
      try clear c2
      try clear p2
      try clear c3
      try clear c3b0
      try clear c3b1
      try clear c4
      try clear c4b0
      try clear c4b1
      try clear c6
      try clear c6b0
      try clear c6b1
      try clear p6
      try clear c7
      try clear c7b0
      try clear c7b1
      try clear p2
      try clear p6
      obtain ⟨x0_2, x1_2, rfl, rfl, HA, HK2, ⟨m2, rfl⟩⟩ := hrel
      cases gk with
      | zero => exact absurd HA.out (by simp [culletref01_Gcd.l1])
      | succ k2 =>
       have H := HA.out
       clear HA
       simp only [culletref01_Gcd.l1] at H
       by_cases c8 : x0_2 = 0
       ·rw [if_pos c8] at H
        have c8b0 : (x0_2 == 0) = true := beq_iff_eq.mpr c8
        have c8b1 : (x0_2 != 0) = false := bne_eq_false_iff_eq.mpr c8
        clear c8
        obtain ⟨ji9, hji9⟩ : ∃ j_ : Int, (IntKind.u64.wrap (x5_4)) = j_ := ⟨_, rfl⟩
        replace H : (if 0 ≤ (ji9) then (some (shl .u64 x1_2 (ji9))) else (none)) = some r := by first | (rw [hji9] at H; exact H) | (simp only [hji9] at H ⊢; exact H)
        by_cases c10 : 0 ≤ (ji9)
        ·rw [if_pos c10] at H
         have c10b0 := eq_true c10
         have c10b1 : decide (0 ≤ (ji9)) = true := decide_eq_true c10
         clear c10
         obtain ⟨ji11, hji11⟩ : ∃ j_ : Int, (shl .u64 x1_2 (ji9)) = j_ := ⟨_, rfl⟩
         replace H : (some ji11) = some r := by first | (rw [hji11] at H; exact H) | (simp only [hji11] at H ⊢; exact H)
         have hji11_ : (IntKind.u64.wrap (x1_2 * 2 ^ min (ji9).toNat 64)) = ji11 := hji11
         have hji11z : (ji9) ≤ 64 → (IntKind.u64.wrap (x1_2 * 2 ^ (ji9).toNat)) = ji11 := shl_small hji11
         obtain rfl := Option.some.inj H
         go_wp2
         go_ret
         exact ⟨by first | rfl | (simp; done) | (simp only [← hji9, ← hji11] <;> (first | rfl | simp)) | (simp [*]; done), by repeat (first | exact Drawn0.refl _ | apply Drawn0.step)⟩
        ·rw [if_neg c10] at H
         exact absurd H (by simp)
       ·rw [if_neg c8] at H
        have c8b0 : (x0_2 == 0) = false := beq_eq_false_iff_ne.mpr c8
        have c8b1 : (x0_2 != 0) = true := bne_iff_ne.mpr c8
        have H' := Aside0.mk H
        clear H
        go_wp2
        go_loopg [0] k2 (fun kq v0 w' => ∃ (x0_3 : Int), v0 = .int .u64 x0_3 ∧ Aside0 (culletref01_Gcd.l2 kq x0_3 x1_2 x5_4 = some r) ∧ Aside0 (kq ≤ k2) ∧ Drawn0 w w')
        case atStart => exact ⟨(x0_2), (by first | rfl | (simp; done) | (simp [*]; done)), H', ⟨Nat.le_refl _⟩, by repeat (first | exact Drawn0.refl _ | apply Drawn0.step)⟩
        case round =>
         clear H'
         try clear c1
         try clear c2
         try clear p2
         try clear c3
         try clear c3b0
         try clear c3b1
         try clear c4
         try clear c4b0
         try clear c4b1
         try clear c6
         try clear c6b0
         try clear c6b1
         try clear p6
         try clear c7
         try clear c7b0
         try clear c7b1
         try clear c8
         try clear c8b0
         try clear c8b1
         try clear c10
         try clear c10b0
         try clear c10b1
         try clear p2
         try clear p6
         obtain ⟨x0_3, rfl, HA, HK3, ⟨m3, rfl⟩⟩ := hrel
         cases gk with
         | zero => exact absurd HA.out (by simp [culletref01_Gcd.l2])
         | succ k3 =>
          have H := HA.out
          clear HA
          simp only [culletref01_Gcd.l2] at H
          by_cases c12 : (Int.tmod x0_3 2) = 0
          ·rw [if_pos c12] at H
           have c12b0 : ((Int.tmod x0_3 2) == 0) = true := beq_iff_eq.mpr c12
           have c12b1 : ((Int.tmod x0_3 2) != 0) = false := bne_eq_false_iff_eq.mpr c12
           clear c12
           have H' := Aside0.mk H
           clear H
           go_wp2
           go_roundg k3
           case measure => have := HJ4.out; have := HK2.out; have := HK3.out; omega
           case rel => exact ⟨(IntKind.u64.wrap (Int.tdiv x0_3 2)), (by first | rfl | (simp; done) | (simp [*]; done)), H', ⟨by have := HJ4.out; have := HK2.out; have := HK3.out; omega⟩, by repeat (first | exact Drawn0.refl _ | apply Drawn0.step)⟩
          ·rw [if_neg c12] at H
           have c12b0 : ((Int.tmod x0_3 2) == 0) = false := beq_eq_false_iff_ne.mpr c12
           have c12b1 : ((Int.tmod x0_3 2) != 0) = true := bne_iff_ne.mpr c12
           have H' := Aside0.mk H
           clear H
           go_wp2
           go_loopg [1] k3 (fun kq v1 w' => ∃ (x1_4 : Int), v1 = .int .u64 x1_4 ∧ Aside0 (culletref01_Gcd.l3 kq x0_3 x1_4 x5_4 = some r) ∧ Aside0 (kq ≤ k3) ∧ Drawn0 w w')
           case atStart => exact ⟨(x1_2), (by first | rfl | (simp; done) | (simp [*]; done)), H', ⟨Nat.le_refl _⟩, by repeat (first | exact Drawn0.refl _ | apply Drawn0.step)⟩
           case round =>
            clear H'
            try clear c1
            try clear c2
            try clear p2
            try clear c3
            try clear c3b0
            try clear c3b1
            try clear c4
            try clear c4b0
            try clear c4b1
            try clear c6
            try clear c6b0
            try clear c6b1
            try clear p6
            try clear c7
            try clear c7b0
            try clear c7b1
            try clear c8
            try clear c8b0
            try clear c8b1
            try clear c10
            try clear c10b0
            try clear c10b1
            try clear c12
            try clear c12b0
            try clear c12b1
            try clear p2
            try clear p6
            obtain ⟨x1_4, rfl, HA, HK4, ⟨m4, rfl⟩⟩ := hrel
            cases gk with
            | zero => exact absurd HA.out (by simp [culletref01_Gcd.l3])
            | succ k4 =>
             have H := HA.out
             clear HA
             simp only [culletref01_Gcd.l3] at H
             by_cases c13 : (Int.tmod x1_4 2) = 0
             ·rw [if_pos c13] at H
              have c13b0 : ((Int.tmod x1_4 2) == 0) = true := beq_iff_eq.mpr c13
              have c13b1 : ((Int.tmod x1_4 2) != 0) = false := bne_eq_false_iff_eq.mpr c13
              clear c13
              have H' := Aside0.mk H
              clear H
              go_wp2
              go_roundg k4
              case measure => have := HJ4.out; have := HK2.out; have := HK3.out; have := HK4.out; omega
              case rel => exact ⟨(IntKind.u64.wrap (Int.tdiv x1_4 2)), (by first | rfl | (simp; done) | (simp [*]; done)), H', ⟨by have := HJ4.out; have := HK2.out; have := HK3.out; have := HK4.out; omega⟩, by repeat (first | exact Drawn0.refl _ | apply Drawn0.step)⟩
             ·rw [if_neg c13] at H
              have c13b0 : ((Int.tmod x1_4 2) == 0) = false := beq_eq_false_iff_ne.mpr c13
              have c13b1 : ((Int.tmod x1_4 2) != 0) = true := bne_iff_ne.mpr c13
              replace H := Option.bind_eq_some_iff.mp H
              obtain ⟨t166, A140, H⟩ := H
              replace H : ((culletref01_Degree.f k4 x1_4).bind fun t167 => (if t166 ≥ t167 then (culletref01_Gcd.l1 k4 (Go.bits .xor .u64 x0_3 x1_4) x1_4 x5_4) else (culletref01_Gcd.l1 k4 x0_3 (Go.bits .xor .u64 x1_4 x0_3) x5_4))) = some r := H
              have A14 := Aside0.mk A140
              clear A140
              replace H := Option.bind_eq_some_iff.mp H
              obtain ⟨t167, A150, H⟩ := H
              replace H : (if t166 ≥ t167 then (culletref01_Gcd.l1 k4 (Go.bits .xor .u64 x0_3 x1_4) x1_4 x5_4) else (culletref01_Gcd.l1 k4 x0_3 (Go.bits .xor .u64 x1_4 x0_3) x5_4)) = some r := H
              have A15 := Aside0.mk A150
              clear A150
              by_cases c16 : t166 ≥ t167
              ·rw [if_pos c16] at H
               have c16b0 : decide (t167 ≤ t166) = true := decide_eq_true c16
               clear c16
               have H' := Aside0.mk H
               clear H
               go_wp2_with (first | ((with_reducible refine gate_callee (f := 18) rfl ?_); refine goesL_ (some 39) rfl rfl Tryd.func18 (by kernel_rfl) rfl #[.int .u64 x0_3] rfl (by (try simp only [List.map_toArray, List.map_cons, List.map_nil]); first | done | rfl | (simp only [tb_wrap8]; done) | (simp only [tb_wrap8]; rfl) | (simp only [List.length_drop, List.length_take]; rfl)) ?_; (with_reducible refine (culletref01_Degree.calls k4 x0_3 t166 _ A14.out).mono ?_); rintro e w' ⟨rfl, ⟨nd, rfl⟩⟩; refine ⟨_, rfl, ?_⟩) | ((with_reducible refine gate_callee (f := 18) rfl ?_); refine goesL_ (some 41) rfl rfl Tryd.func18 (by kernel_rfl) rfl #[.int .u64 x1_4] rfl (by (try simp only [List.map_toArray, List.map_cons, List.map_nil]); first | done | rfl | (simp only [tb_wrap8]; done) | (simp only [tb_wrap8]; rfl) | (simp only [List.length_drop, List.length_take]; rfl)) ?_; (with_reducible refine (culletref01_Degree.calls k4 x1_4 t167 _ A15.out).mono ?_); rintro e w' ⟨rfl, ⟨nd, rfl⟩⟩; refine ⟨_, rfl, ?_⟩))
               go_roundg k4
               case measure => have := HJ4.out; have := HK2.out; have := HK3.out; have := HK4.out; omega
               case rel => exact ⟨(Go.bits .xor .u64 x0_3 x1_4), (x1_4), (by first | rfl | (simp; done) | (simp [*]; done)), (by first | rfl | (simp; done) | (simp [*]; done)), H', ⟨by have := HJ4.out; have := HK2.out; have := HK3.out; have := HK4.out; omega⟩, by repeat (first | exact Drawn0.refl _ | apply Drawn0.step)⟩
              ·rw [if_neg c16] at H
               have c16b0 : decide (t167 ≤ t166) = false := decide_eq_false c16
               clear c16
               have H' := Aside0.mk H
               clear H
               go_wp2_with (first | ((with_reducible refine gate_callee (f := 18) rfl ?_); refine goesL_ (some 39) rfl rfl Tryd.func18 (by kernel_rfl) rfl #[.int .u64 x0_3] rfl (by (try simp only [List.map_toArray, List.map_cons, List.map_nil]); first | done | rfl | (simp only [tb_wrap8]; done) | (simp only [tb_wrap8]; rfl) | (simp only [List.length_drop, List.length_take]; rfl)) ?_; (with_reducible refine (culletref01_Degree.calls k4 x0_3 t166 _ A14.out).mono ?_); rintro e w' ⟨rfl, ⟨nd, rfl⟩⟩; refine ⟨_, rfl, ?_⟩) | ((with_reducible refine gate_callee (f := 18) rfl ?_); refine goesL_ (some 41) rfl rfl Tryd.func18 (by kernel_rfl) rfl #[.int .u64 x1_4] rfl (by (try simp only [List.map_toArray, List.map_cons, List.map_nil]); first | done | rfl | (simp only [tb_wrap8]; done) | (simp only [tb_wrap8]; rfl) | (simp only [List.length_drop, List.length_take]; rfl)) ?_; (with_reducible refine (culletref01_Degree.calls k4 x1_4 t167 _ A15.out).mono ?_); rintro e w' ⟨rfl, ⟨nd, rfl⟩⟩; refine ⟨_, rfl, ?_⟩))
               go_roundg k4
               case measure => have := HJ4.out; have := HK2.out; have := HK3.out; have := HK4.out; omega
               case rel => exact ⟨(x0_3), (Go.bits .xor .u64 x1_4 x0_3), (by first | rfl | (simp; done) | (simp [*]; done)), (by first | rfl | (simp; done) | (simp [*]; done)), H', ⟨by have := HJ4.out; have := HK2.out; have := HK3.out; have := HK4.out; omega⟩, by repeat (first | exact Drawn0.refl _ | apply Drawn0.step)⟩

end Go.Proofs.YthldahaimcdejaaDoor.A
end
