-- Printed for this claim by mp.py, a program of its prover, through the kit's print. Lean checks it.
import Derived.Test.YtklkcenffajfeaaQx0
import Derived.Test.YtklkcenffajfeaaQx1
namespace Go.Proofs.Ytklkcenffajfeaa.Q
open Go.RowKit Go.Proofs.YtklkcenffajfeaaW.PrintWords Go.Proofs.YtklkcenffajfeaaW.PrintLast Go.Proofs.YtklkcenffajfeaaW.PrintMore Go.Proofs.Ytklkcenffajfeaa.A
attribute [local go_sem] max2_int min2_int max_two min_two max_three min_three max_four min_four   -- for this text's walks alone
set_option linter.unusedVariables false
set_option linter.unusedSimpArgs false

/-! ### culletlaw15_WalshDifferences: function 8 -/
mutual
def culletlaw15_WalshDifferences.j0 : Nat → List Int → Int → List Int → Int → List Int → Bool → Option (Bool)
  | 0, _, _, _, _, _, _ => none
  | k + 1, x0, x1, x5, x6, x7, x44 => if x44 = true then (if x6 = 7 then (if (x5.length : Int) = 0 then (some ((x7.length : Int) == 0)) else (some false)) else (some false)) else (culletlaw15_WalshDifferences.l0 k x0 x1 x5 x6 x7 x0 (x0.length : Int) 0)
def culletlaw15_WalshDifferences.l0 : Nat → List Int → Int → List Int → Int → List Int → List Int → Int → Int → Option (Bool)
  | 0, _, _, _, _, _, _, _, _ => none
  | k + 1, x0, x1, x5, x6, x7, x57, x58, x59 => if x59 < x58 then (if 0 ≤ x59 then (if x59 < (x57.length : Int) then (if (rd x57 x59) < 0 then (if x6 = 31 then (if (x5.length : Int) = 0 then (some ((x7.length : Int) == 0)) else (some false)) else (some false)) else (if 0 ≤ (IntKind.u64.wrap (x1)) then (if (rd x57 x59) ≥ (shl .i64 1 (IntKind.u64.wrap (x1))) then (if x6 = 31 then (if (x5.length : Int) = 0 then (some ((x7.length : Int) == 0)) else (some false)) else (some false)) else (if x59 > 0 then (if 0 ≤ (wrap64 (x59 - 1)) then (if (wrap64 (x59 - 1)) < (x0.length : Int) then (if (rd x57 x59) ≤ (rd x0 (wrap64 (x59 - 1))) then (if x6 = 31 then (if (x5.length : Int) = 0 then (some ((x7.length : Int) == 0)) else (some false)) else (some false)) else (culletlaw15_WalshDifferences.l0 k x0 x1 x5 x6 x7 x57 x58 (wrap64 (x59 + 1)))) else (none)) else (none)) else (culletlaw15_WalshDifferences.l0 k x0 x1 x5 x6 x7 x57 x58 (wrap64 (x59 + 1))))) else (none))) else (none)) else (none)) else (if x6 = 0 then (if 0 ≤ (IntKind.u64.wrap (x1)) then (if (x5.length : Int) = (shl .i64 1 (IntKind.u64.wrap (x1))) then (culletlaw15_WalshDifferences.j2 k x0 x5 x7 ((x7.length : Int) != (shl .i64 1 (IntKind.u64.wrap (x1))))) else (culletlaw15_WalshDifferences.j2 k x0 x5 x7 true)) else (none)) else (culletlaw15_WalshDifferences.j2 k x0 x5 x7 true))
def culletlaw15_WalshDifferences.j2 : Nat → List Int → List Int → List Int → Bool → Option (Bool)
  | 0, _, _, _, _ => none
  | k + 1, x0, x5, x7, x116 => if x116 = true then (some false) else ((gf16_New.f).bind fun _ => ((gf16_Tables_Exp.f 1).bind fun t148 => (if t148 = 2 then (culletlaw15_WalshDifferences.l1 k x0 x5 x7 ([] : List Int) (x5.length : Int) 0) else (some false))))
def culletlaw15_WalshDifferences.l1 : Nat → List Int → List Int → List Int → List Int → Int → Int → Option (Bool)
  | 0, _, _, _, _, _, _ => none
  | k + 1, x0, x5, x7, x12, x126, x127 => if x127 < x126 then ((gf16_Element.f x127).bind fun bt149 => (if bt149.2 = 0 then (if x12.length < 70368744177664 then (culletlaw15_WalshDifferences.l1 k x0 x5 x7 (x12 ++ [bt149.1]) x126 (wrap64 (x127 + 1))) else (none)) else (some false))) else (culletlaw15_WalshDifferences.l2 k x0 x5 x7 x12 (x5.length : Int) 0)
def culletlaw15_WalshDifferences.l2 : Nat → List Int → List Int → List Int → List Int → Int → Int → Option (Bool)
  | 0, _, _, _, _, _, _ => none
  | k + 1, x0, x5, x7, x12, x143, x144 => if x144 < x143 then (culletlaw15_WalshDifferences.l3 k x0 x5 x7 x12 x144 1 x143 x144 x0 (x0.length : Int) 0) else (some true)
def culletlaw15_WalshDifferences.l3 : Nat → List Int → List Int → List Int → List Int → Int → Int → Int → Int → List Int → Int → Int → Option (Bool)
  | 0, _, _, _, _, _, _, _, _, _, _, _ => none
  | k + 1, x0, x5, x7, x12, x16, x17, x143, x144, x147, x148, x149 => if x149 < x148 then (if 0 ≤ x149 then (if x149 < (x147.length : Int) then (if (rd x147 x149) = x16 then (culletlaw15_WalshDifferences.l3 k x0 x5 x7 x12 x16 x17 x143 x144 x147 x148 (wrap64 (x149 + 1))) else (if 0 ≤ x16 then (if x16 < (x12.length : Int) then (if 0 ≤ (rd x147 x149) then (if (rd x147 x149) < (x12.length : Int) then ((gf16_Tables_Mul.f x17 (Go.bits .xor .u16 (rd x12 x16) (rd x12 (rd x147 x149)))).bind fun t157 => (culletlaw15_WalshDifferences.l3 k x0 x5 x7 x12 x16 t157 x143 x144 x147 x148 (wrap64 (x149 + 1)))) else (none)) else (none)) else (none)) else (none))) else (none)) else (none)) else (if 0 ≤ x16 then (if x16 < (x5.length : Int) then (if (rd x5 x16) = x17 then (if x16 < (x7.length : Int) then (if (rd x7 x16) = 65535 then (some false) else ((gf16_Tables_Exp.f (wrap64 (rd x7 x16))).bind fun t161 => (if t161 = (rd x5 x16) then (culletlaw15_WalshDifferences.l2 k x0 x5 x7 x12 x143 (wrap64 (x144 + 1))) else (some false)))) else (none)) else (some false)) else (none)) else (none))
end
def culletlaw15_WalshDifferences.f (k : Nat) (l0 : List Int) (a1 : Int) : Option (Bool) := (culletlaw15_fixed.f k).bind fun t130 => (if t130 = true then ((culletlaw15_copiedInts.f k l0).bind fun t131 => ((walsh_Products.f t131 a1).bind fun bt134 => ((culletlaw15_copiedInts.f k l0).bind fun t138 => ((walsh_Locator.f t138 a1).bind fun bt141 => (if bt134.2 = bt141.2 then (if a1 < 0 then (culletlaw15_WalshDifferences.j0 k l0 a1 bt134.1 bt134.2 bt141.1 true) else (culletlaw15_WalshDifferences.j0 k l0 a1 bt134.1 bt134.2 bt141.1 (decide (a1 > 16)))) else (some false)))))) else (some false))
theorem culletlaw15_WalshDifferences.mono_l : ∀ k, (∀ y0 y1 y2 y3 y4 y5, LeO (culletlaw15_WalshDifferences.j0 k y0 y1 y2 y3 y4 y5) (culletlaw15_WalshDifferences.j0 (k + 1) y0 y1 y2 y3 y4 y5)) ∧ (∀ y0 y1 y2 y3 y4 y5 y6 y7, LeO (culletlaw15_WalshDifferences.l0 k y0 y1 y2 y3 y4 y5 y6 y7) (culletlaw15_WalshDifferences.l0 (k + 1) y0 y1 y2 y3 y4 y5 y6 y7)) ∧ (∀ y0 y1 y2 y3, LeO (culletlaw15_WalshDifferences.j2 k y0 y1 y2 y3) (culletlaw15_WalshDifferences.j2 (k + 1) y0 y1 y2 y3)) ∧ (∀ y0 y1 y2 y3 y4 y5, LeO (culletlaw15_WalshDifferences.l1 k y0 y1 y2 y3 y4 y5) (culletlaw15_WalshDifferences.l1 (k + 1) y0 y1 y2 y3 y4 y5)) ∧ (∀ y0 y1 y2 y3 y4 y5, LeO (culletlaw15_WalshDifferences.l2 k y0 y1 y2 y3 y4 y5) (culletlaw15_WalshDifferences.l2 (k + 1) y0 y1 y2 y3 y4 y5)) ∧ (∀ y0 y1 y2 y3 y4 y5 y6 y7 y8 y9 y10, LeO (culletlaw15_WalshDifferences.l3 k y0 y1 y2 y3 y4 y5 y6 y7 y8 y9 y10) (culletlaw15_WalshDifferences.l3 (k + 1) y0 y1 y2 y3 y4 y5 y6 y7 y8 y9 y10))
  | 0 => ⟨fun _ _ _ _ _ _ r h => by simp [culletlaw15_WalshDifferences.j0] at h, fun _ _ _ _ _ _ _ _ r h => by simp [culletlaw15_WalshDifferences.l0] at h, fun _ _ _ _ r h => by simp [culletlaw15_WalshDifferences.j2] at h, fun _ _ _ _ _ _ r h => by simp [culletlaw15_WalshDifferences.l1] at h, fun _ _ _ _ _ _ r h => by simp [culletlaw15_WalshDifferences.l2] at h, fun _ _ _ _ _ _ _ _ _ _ _ r h => by simp [culletlaw15_WalshDifferences.l3] at h⟩
  | k + 1 => by
    obtain ⟨ih0, ih1, ih2, ih3, ih4, ih5⟩ := culletlaw15_WalshDifferences.mono_l k
    refine ⟨?_, ?_, ?_, ?_, ?_, ?_⟩
    · intro y0 y1 y2 y3 y4 y5
      unfold culletlaw15_WalshDifferences.j0
      repeat' first
      | (with_reducible exact ih0 _ _ _ _ _ _)
      | (with_reducible exact ih1 _ _ _ _ _ _ _ _)
      | (with_reducible exact ih2 _ _ _ _)
      | (with_reducible exact ih3 _ _ _ _ _ _)
      | (with_reducible exact ih4 _ _ _ _ _ _)
      | (with_reducible exact ih5 _ _ _ _ _ _ _ _ _ _ _)
      | (with_reducible exact culletlaw15_copiedInts.mono _ _)
      | (with_reducible exact culletlaw15_fixed.mono _)
      | (with_reducible exact LeO.refl _)
      | (with_reducible exact LeO.none _)
      | (with_reducible refine LeO.ite ?_ ?_)
      | (with_reducible refine LeO.bind ?_ (fun _ => ?_))
      | exact ih0 _ _ _ _ _ _
      | exact ih1 _ _ _ _ _ _ _ _
      | exact ih2 _ _ _ _
      | exact ih3 _ _ _ _ _ _
      | exact ih4 _ _ _ _ _ _
      | exact ih5 _ _ _ _ _ _ _ _ _ _ _
      | exact culletlaw15_copiedInts.mono _ _
      | exact culletlaw15_fixed.mono _
      | exact LeO.none _
      | refine LeO.ite ?_ ?_
      | refine LeO.bind ?_ (fun _ => ?_)
    · intro y0 y1 y2 y3 y4 y5 y6 y7
      unfold culletlaw15_WalshDifferences.l0
      repeat' first
      | (with_reducible exact ih0 _ _ _ _ _ _)
      | (with_reducible exact ih1 _ _ _ _ _ _ _ _)
      | (with_reducible exact ih2 _ _ _ _)
      | (with_reducible exact ih3 _ _ _ _ _ _)
      | (with_reducible exact ih4 _ _ _ _ _ _)
      | (with_reducible exact ih5 _ _ _ _ _ _ _ _ _ _ _)
      | (with_reducible exact culletlaw15_copiedInts.mono _ _)
      | (with_reducible exact culletlaw15_fixed.mono _)
      | (with_reducible exact LeO.refl _)
      | (with_reducible exact LeO.none _)
      | (with_reducible refine LeO.ite ?_ ?_)
      | (with_reducible refine LeO.bind ?_ (fun _ => ?_))
      | exact ih0 _ _ _ _ _ _
      | exact ih1 _ _ _ _ _ _ _ _
      | exact ih2 _ _ _ _
      | exact ih3 _ _ _ _ _ _
      | exact ih4 _ _ _ _ _ _
      | exact ih5 _ _ _ _ _ _ _ _ _ _ _
      | exact culletlaw15_copiedInts.mono _ _
      | exact culletlaw15_fixed.mono _
      | exact LeO.none _
      | refine LeO.ite ?_ ?_
      | refine LeO.bind ?_ (fun _ => ?_)
    · intro y0 y1 y2 y3
      unfold culletlaw15_WalshDifferences.j2
      repeat' first
      | (with_reducible exact ih0 _ _ _ _ _ _)
      | (with_reducible exact ih1 _ _ _ _ _ _ _ _)
      | (with_reducible exact ih2 _ _ _ _)
      | (with_reducible exact ih3 _ _ _ _ _ _)
      | (with_reducible exact ih4 _ _ _ _ _ _)
      | (with_reducible exact ih5 _ _ _ _ _ _ _ _ _ _ _)
      | (with_reducible exact culletlaw15_copiedInts.mono _ _)
      | (with_reducible exact culletlaw15_fixed.mono _)
      | (with_reducible exact LeO.refl _)
      | (with_reducible exact LeO.none _)
      | (with_reducible refine LeO.ite ?_ ?_)
      | (with_reducible refine LeO.bind ?_ (fun _ => ?_))
      | exact ih0 _ _ _ _ _ _
      | exact ih1 _ _ _ _ _ _ _ _
      | exact ih2 _ _ _ _
      | exact ih3 _ _ _ _ _ _
      | exact ih4 _ _ _ _ _ _
      | exact ih5 _ _ _ _ _ _ _ _ _ _ _
      | exact culletlaw15_copiedInts.mono _ _
      | exact culletlaw15_fixed.mono _
      | exact LeO.none _
      | refine LeO.ite ?_ ?_
      | refine LeO.bind ?_ (fun _ => ?_)
    · intro y0 y1 y2 y3 y4 y5
      unfold culletlaw15_WalshDifferences.l1
      repeat' first
      | (with_reducible exact ih0 _ _ _ _ _ _)
      | (with_reducible exact ih1 _ _ _ _ _ _ _ _)
      | (with_reducible exact ih2 _ _ _ _)
      | (with_reducible exact ih3 _ _ _ _ _ _)
      | (with_reducible exact ih4 _ _ _ _ _ _)
      | (with_reducible exact ih5 _ _ _ _ _ _ _ _ _ _ _)
      | (with_reducible exact culletlaw15_copiedInts.mono _ _)
      | (with_reducible exact culletlaw15_fixed.mono _)
      | (with_reducible exact LeO.refl _)
      | (with_reducible exact LeO.none _)
      | (with_reducible refine LeO.ite ?_ ?_)
      | (with_reducible refine LeO.bind ?_ (fun _ => ?_))
      | exact ih0 _ _ _ _ _ _
      | exact ih1 _ _ _ _ _ _ _ _
      | exact ih2 _ _ _ _
      | exact ih3 _ _ _ _ _ _
      | exact ih4 _ _ _ _ _ _
      | exact ih5 _ _ _ _ _ _ _ _ _ _ _
      | exact culletlaw15_copiedInts.mono _ _
      | exact culletlaw15_fixed.mono _
      | exact LeO.none _
      | refine LeO.ite ?_ ?_
      | refine LeO.bind ?_ (fun _ => ?_)
    · intro y0 y1 y2 y3 y4 y5
      unfold culletlaw15_WalshDifferences.l2
      repeat' first
      | (with_reducible exact ih0 _ _ _ _ _ _)
      | (with_reducible exact ih1 _ _ _ _ _ _ _ _)
      | (with_reducible exact ih2 _ _ _ _)
      | (with_reducible exact ih3 _ _ _ _ _ _)
      | (with_reducible exact ih4 _ _ _ _ _ _)
      | (with_reducible exact ih5 _ _ _ _ _ _ _ _ _ _ _)
      | (with_reducible exact culletlaw15_copiedInts.mono _ _)
      | (with_reducible exact culletlaw15_fixed.mono _)
      | (with_reducible exact LeO.refl _)
      | (with_reducible exact LeO.none _)
      | (with_reducible refine LeO.ite ?_ ?_)
      | (with_reducible refine LeO.bind ?_ (fun _ => ?_))
      | exact ih0 _ _ _ _ _ _
      | exact ih1 _ _ _ _ _ _ _ _
      | exact ih2 _ _ _ _
      | exact ih3 _ _ _ _ _ _
      | exact ih4 _ _ _ _ _ _
      | exact ih5 _ _ _ _ _ _ _ _ _ _ _
      | exact culletlaw15_copiedInts.mono _ _
      | exact culletlaw15_fixed.mono _
      | exact LeO.none _
      | refine LeO.ite ?_ ?_
      | refine LeO.bind ?_ (fun _ => ?_)
    · intro y0 y1 y2 y3 y4 y5 y6 y7 y8 y9 y10
      unfold culletlaw15_WalshDifferences.l3
      repeat' first
      | (with_reducible exact ih0 _ _ _ _ _ _)
      | (with_reducible exact ih1 _ _ _ _ _ _ _ _)
      | (with_reducible exact ih2 _ _ _ _)
      | (with_reducible exact ih3 _ _ _ _ _ _)
      | (with_reducible exact ih4 _ _ _ _ _ _)
      | (with_reducible exact ih5 _ _ _ _ _ _ _ _ _ _ _)
      | (with_reducible exact culletlaw15_copiedInts.mono _ _)
      | (with_reducible exact culletlaw15_fixed.mono _)
      | (with_reducible exact LeO.refl _)
      | (with_reducible exact LeO.none _)
      | (with_reducible refine LeO.ite ?_ ?_)
      | (with_reducible refine LeO.bind ?_ (fun _ => ?_))
      | exact ih0 _ _ _ _ _ _
      | exact ih1 _ _ _ _ _ _ _ _
      | exact ih2 _ _ _ _
      | exact ih3 _ _ _ _ _ _
      | exact ih4 _ _ _ _ _ _
      | exact ih5 _ _ _ _ _ _ _ _ _ _ _
      | exact culletlaw15_copiedInts.mono _ _
      | exact culletlaw15_fixed.mono _
      | exact LeO.none _
      | refine LeO.ite ?_ ?_
      | refine LeO.bind ?_ (fun _ => ?_)
theorem culletlaw15_WalshDifferences.mono : ∀ a0 a1 k, LeO (culletlaw15_WalshDifferences.f k a0 a1) (culletlaw15_WalshDifferences.f (k + 1) a0 a1) := by
  intro a0 a1 k
  obtain ⟨ih0, ih1, ih2, ih3, ih4, ih5⟩ := culletlaw15_WalshDifferences.mono_l k
  unfold culletlaw15_WalshDifferences.f
  repeat' first
      | (with_reducible exact ih0 _ _ _ _ _ _)
      | (with_reducible exact ih1 _ _ _ _ _ _ _ _)
      | (with_reducible exact ih2 _ _ _ _)
      | (with_reducible exact ih3 _ _ _ _ _ _)
      | (with_reducible exact ih4 _ _ _ _ _ _)
      | (with_reducible exact ih5 _ _ _ _ _ _ _ _ _ _ _)
      | (with_reducible exact culletlaw15_copiedInts.mono _ _)
      | (with_reducible exact culletlaw15_fixed.mono _)
      | (with_reducible exact LeO.refl _)
      | (with_reducible exact LeO.none _)
      | (with_reducible refine LeO.ite ?_ ?_)
      | (with_reducible refine LeO.bind ?_ (fun _ => ?_))
      | exact ih0 _ _ _ _ _ _
      | exact ih1 _ _ _ _ _ _ _ _
      | exact ih2 _ _ _ _
      | exact ih3 _ _ _ _ _ _
      | exact ih4 _ _ _ _ _ _
      | exact ih5 _ _ _ _ _ _ _ _ _ _ _
      | exact culletlaw15_copiedInts.mono _ _
      | exact culletlaw15_fixed.mono _
      | exact LeO.none _
      | refine LeO.ite ?_ ?_
      | refine LeO.bind ?_ (fun _ => ?_)
set_option maxHeartbeats 8000000 in
set_option maxRecDepth 100000 in
theorem culletlaw15_WalshDifferences.calls (k : Nat) (A0 : Option Addr) (c0 : Nat) (l0 : List Int) (a1 : Int) (r : Bool) (w : World) (hr0 : Kd.C (Kd.int .i64) w A0 l0.length l0) (hc0 : l0.length ≤ c0) (h : culletlaw15_WalshDifferences.f k l0 a1 = some r) :
    Calls Try.prog 8 #[.slice A0 l0.length c0, .int .i64 a1] w fun e w' => e = .returned (.bool r) ∧ Below w.heap.size w w' := by
  have HR0 := Aside0.mk hr0
  have HC0 := Aside0.mk hc0
  clear hr0 hc0
  have HB := Aside0.mk (Below.refl w.heap.size w)
  have H : ((culletlaw15_fixed.f k).bind fun t130 => (if t130 = true then ((culletlaw15_copiedInts.f k l0).bind fun t131 => ((walsh_Products.f t131 a1).bind fun bt134 => ((culletlaw15_copiedInts.f k l0).bind fun t138 => ((walsh_Locator.f t138 a1).bind fun bt141 => (if bt134.2 = bt141.2 then (if a1 < 0 then (culletlaw15_WalshDifferences.j0 k l0 a1 bt134.1 bt134.2 bt141.1 true) else (culletlaw15_WalshDifferences.j0 k l0 a1 bt134.1 bt134.2 bt141.1 (decide (a1 > 16)))) else (some false)))))) else (some false))) = some r := h
  clear h
  replace H := Option.bind_eq_some_iff.mp H
  obtain ⟨t130, A30, H⟩ := H
  replace H : (if t130 = true then ((culletlaw15_copiedInts.f k l0).bind fun t131 => ((walsh_Products.f t131 a1).bind fun bt134 => ((culletlaw15_copiedInts.f k l0).bind fun t138 => ((walsh_Locator.f t138 a1).bind fun bt141 => (if bt134.2 = bt141.2 then (if a1 < 0 then (culletlaw15_WalshDifferences.j0 k l0 a1 bt134.1 bt134.2 bt141.1 true) else (culletlaw15_WalshDifferences.j0 k l0 a1 bt134.1 bt134.2 bt141.1 (decide (a1 > 16)))) else (some false)))))) else (some false)) = some r := H
  have A3 := Aside0.mk A30
  clear A30
  by_cases c4 : t130 = true
  · subst c4
    have H1 : ((culletlaw15_copiedInts.f k l0).bind fun t131 => ((walsh_Products.f t131 a1).bind fun bt134 => ((culletlaw15_copiedInts.f k l0).bind fun t138 => ((walsh_Locator.f t138 a1).bind fun bt141 => (if bt134.2 = bt141.2 then (if a1 < 0 then (culletlaw15_WalshDifferences.j0 k l0 a1 bt134.1 bt134.2 bt141.1 true) else (culletlaw15_WalshDifferences.j0 k l0 a1 bt134.1 bt134.2 bt141.1 (decide (a1 > 16)))) else (some false)))))) = some r := by rw [if_pos rfl] at H; exact H
    clear H
    have H := H1
    clear H1
    replace H := Option.bind_eq_some_iff.mp H
    obtain ⟨t131, A50, H⟩ := H
    replace H : ((walsh_Products.f t131 a1).bind fun bt134 => ((culletlaw15_copiedInts.f k l0).bind fun t138 => ((walsh_Locator.f t138 a1).bind fun bt141 => (if bt134.2 = bt141.2 then (if a1 < 0 then (culletlaw15_WalshDifferences.j0 k l0 a1 bt134.1 bt134.2 bt141.1 true) else (culletlaw15_WalshDifferences.j0 k l0 a1 bt134.1 bt134.2 bt141.1 (decide (a1 > 16)))) else (some false))))) = some r := H
    have A5 := Aside0.mk A50
    clear A50
    replace H := Option.bind_eq_some_iff.mp H
    obtain ⟨⟨t134, t135⟩, A60, H⟩ := H
    replace H : ((culletlaw15_copiedInts.f k l0).bind fun t138 => ((walsh_Locator.f t138 a1).bind fun bt141 => (if t135 = bt141.2 then (if a1 < 0 then (culletlaw15_WalshDifferences.j0 k l0 a1 t134 t135 bt141.1 true) else (culletlaw15_WalshDifferences.j0 k l0 a1 t134 t135 bt141.1 (decide (a1 > 16)))) else (some false)))) = some r := H
    have A6 := Aside0.mk A60
    clear A60
    replace H := Option.bind_eq_some_iff.mp H
    obtain ⟨t138, A70, H⟩ := H
    replace H : ((walsh_Locator.f t138 a1).bind fun bt141 => (if t135 = bt141.2 then (if a1 < 0 then (culletlaw15_WalshDifferences.j0 k l0 a1 t134 t135 bt141.1 true) else (culletlaw15_WalshDifferences.j0 k l0 a1 t134 t135 bt141.1 (decide (a1 > 16)))) else (some false))) = some r := H
    have A7 := Aside0.mk A70
    clear A70
    replace H := Option.bind_eq_some_iff.mp H
    obtain ⟨⟨t141, t142⟩, A80, H⟩ := H
    replace H : (if t135 = t142 then (if a1 < 0 then (culletlaw15_WalshDifferences.j0 k l0 a1 t134 t135 t141 true) else (culletlaw15_WalshDifferences.j0 k l0 a1 t134 t135 t141 (decide (a1 > 16)))) else (some false)) = some r := H
    have A8 := Aside0.mk A80
    clear A80
    by_cases c9 : t135 = t142
    · rw [if_pos c9] at H
      have c9b0 : (t135 == t142) = true := beq_iff_eq.mpr c9
      have c9b1 : (t135 != t142) = false := bne_eq_false_iff_eq.mpr c9
      clear c9
      have HC10 := Aside0.mk H
      clear H
      go_enter Try.func8, Try.ntmps8
      go_upto_region 7 with (first | (go_at_call 11; (with_reducible refine (culletlaw15_fixed.calls k  true _ A3.out).mono ?_); rintro e w11 ⟨rfl, hb⟩; have n0_ := Aside0.mk (below_step (by repeat (first | (with_reducible first | exact HB.out | apply below_alloc | apply pw_below_drewN | apply below_drew1) | exact HB.out)) hb); clear HB; have HB := n0_; clear n0_; (try clear hb); (try clear hb2); (try clear hk); (try clear hi)) | (go_at_call 22; (with_reducible refine (culletlaw15_copiedInts.calls k _ _ l0 t131 _ ?side1 ?side2 A5.out).mono ?_); (case side1 => repeat (first | exact (Kd.C_below HR0.out HB.out) | (with_reducible refine Kd.C_alloc ?_ _) | (with_reducible refine Kd.C_drewN ?_ _) | (with_reducible refine Kd.C_drew ?_))); (case side2 => exact HC0.out); rintro e w12 ⟨v132, rfl, ho0, hb⟩; have n0_ := Aside0.mk (Kd.R_lower ho0 (below_size (by repeat (first | (with_reducible first | exact HB.out | apply below_alloc | apply pw_below_drewN | apply below_drew1) | exact HB.out)))); have n1_ := Aside0.mk (below_step (by repeat (first | (with_reducible first | exact HB.out | apply below_alloc | apply pw_below_drewN | apply below_drew1) | exact HB.out)) hb); clear HB; have HO133 := n0_; have HB := n1_; clear n0_ n1_; (try clear hb); (try clear hb2); (try clear hk); (try clear hi); (try clear ho0); obtain ⟨Ao13, co13, eo13⟩ := Kd.R_slice HO133.out; subst eo13; clear A5) | (go_at_call 26; (with_reducible refine (walsh_Products.calls _ _ t131 a1 t134 t135 _ ?side1 ?side2 A6.out).mono ?_); (case side1 => repeat (first | exact (Kd.R_reads' HO133.out).2.2 | (with_reducible refine Kd.C_alloc ?_ _) | (with_reducible refine Kd.C_drewN ?_ _) | (with_reducible refine Kd.C_drew ?_))); (case side2 => exact (Kd.R_reads' HO133.out).2.1); rintro e w14 ⟨v136, rfl, ho0, hb⟩; have n0_ := Aside0.mk (Kd.R_below (by (with_reducible repeat (first | apply Kd.R_alloc | apply Kd.R_drewN | apply Kd.R_drew)); exact HO133.out) hb); have n1_ := Aside0.mk (Kd.R_lower ho0 (below_size (by repeat (first | (with_reducible first | exact HB.out | apply below_alloc | apply pw_below_drewN | apply below_drew1) | exact HB.out)))); have n2_ := Aside0.mk (below_step (by repeat (first | (with_reducible first | exact HB.out | apply below_alloc | apply pw_below_drewN | apply below_drew1) | exact HB.out)) hb); clear HO133; clear HB; have HO133 := n0_; have HO137 := n1_; have HB := n2_; clear n0_ n1_ n2_; (try clear hb); (try clear hb2); (try clear hk); (try clear hi); (try clear ho0)) | (go_at_call 22; (with_reducible refine (culletlaw15_copiedInts.calls k _ _ l0 t138 _ ?side1 ?side2 A7.out).mono ?_); (case side1 => repeat (first | exact (Kd.C_below HR0.out HB.out) | (with_reducible refine Kd.C_alloc ?_ _) | (with_reducible refine Kd.C_drewN ?_ _) | (with_reducible refine Kd.C_drew ?_))); (case side2 => exact HC0.out); rintro e w15 ⟨v139, rfl, ho0, hb⟩; have n0_ := Aside0.mk (Kd.R_elder' (by (with_reducible repeat (first | apply Kd.R_alloc | apply Kd.R_drewN | apply Kd.R_drew)); exact HO133.out) (Kd.R_base ho0) hb); have n1_ := Aside0.mk (Kd.R_below (by (with_reducible repeat (first | apply Kd.R_alloc | apply Kd.R_drewN | apply Kd.R_drew)); exact HO137.out) hb); have n2_ := Aside0.mk (Kd.R_lower (Kd.R_new' ho0 (Kd.R_lt (by (with_reducible repeat (first | apply Kd.R_alloc | apply Kd.R_drewN | apply Kd.R_drew)); exact HO133.out))) (below_size (by repeat (first | (with_reducible first | exact HB.out | apply below_alloc | apply pw_below_drewN | apply below_drew1) | exact HB.out)))); have n3_ := Aside0.mk (below_step (by repeat (first | (with_reducible first | exact HB.out | apply below_alloc | apply pw_below_drewN | apply below_drew1) | exact HB.out)) hb); clear HO133; clear HO137; clear HB; have HO133 := n0_; have HO137 := n1_; have HO140 := n2_; have HB := n3_; clear n0_ n1_ n2_ n3_; (try clear hb); (try clear hb2); (try clear hk); (try clear hi); (try clear ho0); obtain ⟨Ao16, co16, eo16⟩ := Kd.R_slice HO140.out; subst eo16; clear A7) | (go_at_call 23; (with_reducible refine (walsh_Locator.calls _ _ t138 a1 t141 t142 _ ?side1 ?side2 A8.out).mono ?_); (case side1 => repeat (first | exact (Kd.R_reads' HO140.out).2.2 | (with_reducible refine Kd.C_alloc ?_ _) | (with_reducible refine Kd.C_drewN ?_ _) | (with_reducible refine Kd.C_drew ?_))); (case side2 => exact (Kd.R_reads' HO140.out).2.1); rintro e w17 ⟨v143, rfl, ho0, hb⟩; have n0_ := Aside0.mk (Kd.R_below (by (with_reducible repeat (first | apply Kd.R_alloc | apply Kd.R_drewN | apply Kd.R_drew)); exact HO133.out) hb); have n1_ := Aside0.mk (Kd.R_elder' (by (with_reducible repeat (first | apply Kd.R_alloc | apply Kd.R_drewN | apply Kd.R_drew)); exact HO137.out) (Kd.R_base ho0) hb); have n2_ := Aside0.mk (Kd.R_below (by (with_reducible repeat (first | apply Kd.R_alloc | apply Kd.R_drewN | apply Kd.R_drew)); exact HO140.out) hb); have n3_ := Aside0.mk (Kd.R_lower (Kd.R_new' ho0 (Kd.R_lt (by (with_reducible repeat (first | apply Kd.R_alloc | apply Kd.R_drewN | apply Kd.R_drew)); exact HO137.out))) (below_size (by repeat (first | (with_reducible first | exact HB.out | apply below_alloc | apply pw_below_drewN | apply below_drew1) | exact HB.out)))); have n4_ := Aside0.mk (below_step (by repeat (first | (with_reducible first | exact HB.out | apply below_alloc | apply pw_below_drewN | apply below_drew1) | exact HB.out)) hb); clear HO133; clear HO137; clear HO140; clear HB; have HO133 := n0_; have HO137 := n1_; have HO140 := n2_; have HO144 := n3_; have HB := n4_; clear n0_ n1_ n2_ n3_ n4_; (try clear hb); (try clear hb2); (try clear hk); (try clear hi); (try clear ho0)))
      repeat (go_quiet (first | (go_at_call 11; (with_reducible refine (culletlaw15_fixed.calls k  true _ A3.out).mono ?_); rintro e w11 ⟨rfl, hb⟩; have n0_ := Aside0.mk (below_step (by repeat (first | (with_reducible first | exact HB.out | apply below_alloc | apply pw_below_drewN | apply below_drew1) | exact HB.out)) hb); clear HB; have HB := n0_; clear n0_; (try clear hb); (try clear hb2); (try clear hk); (try clear hi)) | (go_at_call 22; (with_reducible refine (culletlaw15_copiedInts.calls k _ _ l0 t131 _ ?side1 ?side2 A5.out).mono ?_); (case side1 => repeat (first | exact (Kd.C_below HR0.out HB.out) | (with_reducible refine Kd.C_alloc ?_ _) | (with_reducible refine Kd.C_drewN ?_ _) | (with_reducible refine Kd.C_drew ?_))); (case side2 => exact HC0.out); rintro e w12 ⟨v132, rfl, ho0, hb⟩; have n0_ := Aside0.mk (Kd.R_lower ho0 (below_size (by repeat (first | (with_reducible first | exact HB.out | apply below_alloc | apply pw_below_drewN | apply below_drew1) | exact HB.out)))); have n1_ := Aside0.mk (below_step (by repeat (first | (with_reducible first | exact HB.out | apply below_alloc | apply pw_below_drewN | apply below_drew1) | exact HB.out)) hb); clear HB; have HO133 := n0_; have HB := n1_; clear n0_ n1_; (try clear hb); (try clear hb2); (try clear hk); (try clear hi); (try clear ho0); obtain ⟨Ao13, co13, eo13⟩ := Kd.R_slice HO133.out; subst eo13; clear A5) | (go_at_call 26; (with_reducible refine (walsh_Products.calls _ _ t131 a1 t134 t135 _ ?side1 ?side2 A6.out).mono ?_); (case side1 => repeat (first | exact (Kd.R_reads' HO133.out).2.2 | (with_reducible refine Kd.C_alloc ?_ _) | (with_reducible refine Kd.C_drewN ?_ _) | (with_reducible refine Kd.C_drew ?_))); (case side2 => exact (Kd.R_reads' HO133.out).2.1); rintro e w14 ⟨v136, rfl, ho0, hb⟩; have n0_ := Aside0.mk (Kd.R_below (by (with_reducible repeat (first | apply Kd.R_alloc | apply Kd.R_drewN | apply Kd.R_drew)); exact HO133.out) hb); have n1_ := Aside0.mk (Kd.R_lower ho0 (below_size (by repeat (first | (with_reducible first | exact HB.out | apply below_alloc | apply pw_below_drewN | apply below_drew1) | exact HB.out)))); have n2_ := Aside0.mk (below_step (by repeat (first | (with_reducible first | exact HB.out | apply below_alloc | apply pw_below_drewN | apply below_drew1) | exact HB.out)) hb); clear HO133; clear HB; have HO133 := n0_; have HO137 := n1_; have HB := n2_; clear n0_ n1_ n2_; (try clear hb); (try clear hb2); (try clear hk); (try clear hi); (try clear ho0)) | (go_at_call 22; (with_reducible refine (culletlaw15_copiedInts.calls k _ _ l0 t138 _ ?side1 ?side2 A7.out).mono ?_); (case side1 => repeat (first | exact (Kd.C_below HR0.out HB.out) | (with_reducible refine Kd.C_alloc ?_ _) | (with_reducible refine Kd.C_drewN ?_ _) | (with_reducible refine Kd.C_drew ?_))); (case side2 => exact HC0.out); rintro e w15 ⟨v139, rfl, ho0, hb⟩; have n0_ := Aside0.mk (Kd.R_elder' (by (with_reducible repeat (first | apply Kd.R_alloc | apply Kd.R_drewN | apply Kd.R_drew)); exact HO133.out) (Kd.R_base ho0) hb); have n1_ := Aside0.mk (Kd.R_below (by (with_reducible repeat (first | apply Kd.R_alloc | apply Kd.R_drewN | apply Kd.R_drew)); exact HO137.out) hb); have n2_ := Aside0.mk (Kd.R_lower (Kd.R_new' ho0 (Kd.R_lt (by (with_reducible repeat (first | apply Kd.R_alloc | apply Kd.R_drewN | apply Kd.R_drew)); exact HO133.out))) (below_size (by repeat (first | (with_reducible first | exact HB.out | apply below_alloc | apply pw_below_drewN | apply below_drew1) | exact HB.out)))); have n3_ := Aside0.mk (below_step (by repeat (first | (with_reducible first | exact HB.out | apply below_alloc | apply pw_below_drewN | apply below_drew1) | exact HB.out)) hb); clear HO133; clear HO137; clear HB; have HO133 := n0_; have HO137 := n1_; have HO140 := n2_; have HB := n3_; clear n0_ n1_ n2_ n3_; (try clear hb); (try clear hb2); (try clear hk); (try clear hi); (try clear ho0); obtain ⟨Ao16, co16, eo16⟩ := Kd.R_slice HO140.out; subst eo16; clear A7) | (go_at_call 23; (with_reducible refine (walsh_Locator.calls _ _ t138 a1 t141 t142 _ ?side1 ?side2 A8.out).mono ?_); (case side1 => repeat (first | exact (Kd.R_reads' HO140.out).2.2 | (with_reducible refine Kd.C_alloc ?_ _) | (with_reducible refine Kd.C_drewN ?_ _) | (with_reducible refine Kd.C_drew ?_))); (case side2 => exact (Kd.R_reads' HO140.out).2.1); rintro e w17 ⟨v143, rfl, ho0, hb⟩; have n0_ := Aside0.mk (Kd.R_below (by (with_reducible repeat (first | apply Kd.R_alloc | apply Kd.R_drewN | apply Kd.R_drew)); exact HO133.out) hb); have n1_ := Aside0.mk (Kd.R_elder' (by (with_reducible repeat (first | apply Kd.R_alloc | apply Kd.R_drewN | apply Kd.R_drew)); exact HO137.out) (Kd.R_base ho0) hb); have n2_ := Aside0.mk (Kd.R_below (by (with_reducible repeat (first | apply Kd.R_alloc | apply Kd.R_drewN | apply Kd.R_drew)); exact HO140.out) hb); have n3_ := Aside0.mk (Kd.R_lower (Kd.R_new' ho0 (Kd.R_lt (by (with_reducible repeat (first | apply Kd.R_alloc | apply Kd.R_drewN | apply Kd.R_drew)); exact HO137.out))) (below_size (by repeat (first | (with_reducible first | exact HB.out | apply below_alloc | apply pw_below_drewN | apply below_drew1) | exact HB.out)))); have n4_ := Aside0.mk (below_step (by repeat (first | (with_reducible first | exact HB.out | apply below_alloc | apply pw_below_drewN | apply below_drew1) | exact HB.out)) hb); clear HO133; clear HO137; clear HO140; clear HB; have HO133 := n0_; have HO137 := n1_; have HO140 := n2_; have HO144 := n3_; have HB := n4_; clear n0_ n1_ n2_ n3_ n4_; (try clear hb); (try clear hb2); (try clear hk); (try clear hi); (try clear ho0))); go_upto_region 7 with (first | (go_at_call 11; (with_reducible refine (culletlaw15_fixed.calls k  true _ A3.out).mono ?_); rintro e w11 ⟨rfl, hb⟩; have n0_ := Aside0.mk (below_step (by repeat (first | (with_reducible first | exact HB.out | apply below_alloc | apply pw_below_drewN | apply below_drew1) | exact HB.out)) hb); clear HB; have HB := n0_; clear n0_; (try clear hb); (try clear hb2); (try clear hk); (try clear hi)) | (go_at_call 22; (with_reducible refine (culletlaw15_copiedInts.calls k _ _ l0 t131 _ ?side1 ?side2 A5.out).mono ?_); (case side1 => repeat (first | exact (Kd.C_below HR0.out HB.out) | (with_reducible refine Kd.C_alloc ?_ _) | (with_reducible refine Kd.C_drewN ?_ _) | (with_reducible refine Kd.C_drew ?_))); (case side2 => exact HC0.out); rintro e w12 ⟨v132, rfl, ho0, hb⟩; have n0_ := Aside0.mk (Kd.R_lower ho0 (below_size (by repeat (first | (with_reducible first | exact HB.out | apply below_alloc | apply pw_below_drewN | apply below_drew1) | exact HB.out)))); have n1_ := Aside0.mk (below_step (by repeat (first | (with_reducible first | exact HB.out | apply below_alloc | apply pw_below_drewN | apply below_drew1) | exact HB.out)) hb); clear HB; have HO133 := n0_; have HB := n1_; clear n0_ n1_; (try clear hb); (try clear hb2); (try clear hk); (try clear hi); (try clear ho0); obtain ⟨Ao13, co13, eo13⟩ := Kd.R_slice HO133.out; subst eo13) | (go_at_call 26; (with_reducible refine (walsh_Products.calls _ _ t131 a1 t134 t135 _ ?side1 ?side2 A6.out).mono ?_); (case side1 => repeat (first | exact (Kd.R_reads' HO133.out).2.2 | (with_reducible refine Kd.C_alloc ?_ _) | (with_reducible refine Kd.C_drewN ?_ _) | (with_reducible refine Kd.C_drew ?_))); (case side2 => exact (Kd.R_reads' HO133.out).2.1); rintro e w14 ⟨v136, rfl, ho0, hb⟩; have n0_ := Aside0.mk (Kd.R_below (by (with_reducible repeat (first | apply Kd.R_alloc | apply Kd.R_drewN | apply Kd.R_drew)); exact HO133.out) hb); have n1_ := Aside0.mk (Kd.R_lower ho0 (below_size (by repeat (first | (with_reducible first | exact HB.out | apply below_alloc | apply pw_below_drewN | apply below_drew1) | exact HB.out)))); have n2_ := Aside0.mk (below_step (by repeat (first | (with_reducible first | exact HB.out | apply below_alloc | apply pw_below_drewN | apply below_drew1) | exact HB.out)) hb); clear HO133; clear HB; have HO133 := n0_; have HO137 := n1_; have HB := n2_; clear n0_ n1_ n2_; (try clear hb); (try clear hb2); (try clear hk); (try clear hi); (try clear ho0)) | (go_at_call 22; (with_reducible refine (culletlaw15_copiedInts.calls k _ _ l0 t138 _ ?side1 ?side2 A7.out).mono ?_); (case side1 => repeat (first | exact (Kd.C_below HR0.out HB.out) | (with_reducible refine Kd.C_alloc ?_ _) | (with_reducible refine Kd.C_drewN ?_ _) | (with_reducible refine Kd.C_drew ?_))); (case side2 => exact HC0.out); rintro e w15 ⟨v139, rfl, ho0, hb⟩; have n0_ := Aside0.mk (Kd.R_elder' (by (with_reducible repeat (first | apply Kd.R_alloc | apply Kd.R_drewN | apply Kd.R_drew)); exact HO133.out) (Kd.R_base ho0) hb); have n1_ := Aside0.mk (Kd.R_below (by (with_reducible repeat (first | apply Kd.R_alloc | apply Kd.R_drewN | apply Kd.R_drew)); exact HO137.out) hb); have n2_ := Aside0.mk (Kd.R_lower (Kd.R_new' ho0 (Kd.R_lt (by (with_reducible repeat (first | apply Kd.R_alloc | apply Kd.R_drewN | apply Kd.R_drew)); exact HO133.out))) (below_size (by repeat (first | (with_reducible first | exact HB.out | apply below_alloc | apply pw_below_drewN | apply below_drew1) | exact HB.out)))); have n3_ := Aside0.mk (below_step (by repeat (first | (with_reducible first | exact HB.out | apply below_alloc | apply pw_below_drewN | apply below_drew1) | exact HB.out)) hb); clear HO133; clear HO137; clear HB; have HO133 := n0_; have HO137 := n1_; have HO140 := n2_; have HB := n3_; clear n0_ n1_ n2_ n3_; (try clear hb); (try clear hb2); (try clear hk); (try clear hi); (try clear ho0); obtain ⟨Ao16, co16, eo16⟩ := Kd.R_slice HO140.out; subst eo16) | (go_at_call 23; (with_reducible refine (walsh_Locator.calls _ _ t138 a1 t141 t142 _ ?side1 ?side2 A8.out).mono ?_); (case side1 => repeat (first | exact (Kd.R_reads' HO140.out).2.2 | (with_reducible refine Kd.C_alloc ?_ _) | (with_reducible refine Kd.C_drewN ?_ _) | (with_reducible refine Kd.C_drew ?_))); (case side2 => exact (Kd.R_reads' HO140.out).2.1); rintro e w17 ⟨v143, rfl, ho0, hb⟩; have n0_ := Aside0.mk (Kd.R_below (by (with_reducible repeat (first | apply Kd.R_alloc | apply Kd.R_drewN | apply Kd.R_drew)); exact HO133.out) hb); have n1_ := Aside0.mk (Kd.R_elder' (by (with_reducible repeat (first | apply Kd.R_alloc | apply Kd.R_drewN | apply Kd.R_drew)); exact HO137.out) (Kd.R_base ho0) hb); have n2_ := Aside0.mk (Kd.R_below (by (with_reducible repeat (first | apply Kd.R_alloc | apply Kd.R_drewN | apply Kd.R_drew)); exact HO140.out) hb); have n3_ := Aside0.mk (Kd.R_lower (Kd.R_new' ho0 (Kd.R_lt (by (with_reducible repeat (first | apply Kd.R_alloc | apply Kd.R_drewN | apply Kd.R_drew)); exact HO137.out))) (below_size (by repeat (first | (with_reducible first | exact HB.out | apply below_alloc | apply pw_below_drewN | apply below_drew1) | exact HB.out)))); have n4_ := Aside0.mk (below_step (by repeat (first | (with_reducible first | exact HB.out | apply below_alloc | apply pw_below_drewN | apply below_drew1) | exact HB.out)) hb); clear HO133; clear HO137; clear HO140; clear HB; have HO133 := n0_; have HO137 := n1_; have HO140 := n2_; have HO144 := n3_; have HB := n4_; clear n0_ n1_ n2_ n3_ n4_; (try clear hb); (try clear hb2); (try clear hk); (try clear hi); (try clear ho0))))
      (try simp only [Act.put, List.setIfInBounds_toArray, List.set_cons_zero, List.set_cons_succ])
      go_cut [44] (fun v44 wc => ∃ (kq : Nat) (x44_9 : Bool), v44 = .bool x44_9 ∧ Aside0 (culletlaw15_WalshDifferences.j0 kq l0 a1 t134 t135 t141 x44_9 = some r) ∧ Aside0 (kq ≤ k) ∧ Aside0 (Kd.R (Kd.int .u16) 33 wc w.heap.size (fun k_ => some k_ ≠ (v143 : Value).ownBlock) v136 t134) ∧ Aside0 (Kd.R (Kd.int .u16) 33 wc w.heap.size (fun k_ => some k_ ≠ (v136 : Value).ownBlock) v143 t141) ∧ Aside0 (Below w.heap.size w wc))
      case first =>
        have H := HC10.out
        clear HC10
        by_cases c18 : a1 < 0
        · rw [if_pos c18] at H
          have c18b0 : decide (a1 < 0) = true := decide_eq_true c18
          clear c18
          (first | rw [c18b0] | (simp only [i64_w, i32_w]; rw [c18b0]) | skip)
          have H' := Aside0.mk H
          clear H
          go_wp2
          repeat (go_quiet (fail); try go_wp2)
          go_meet
          case rel => exact ⟨_, (true), (by first | rfl | (simp; done) | (simp [*]; done)), H', ⟨by first | omega | exact Nat.le_refl _⟩, ⟨by (with_reducible repeat (first | apply Kd.R_alloc | apply Kd.R_drewN | apply Kd.R_drew)); exact Kd.R_mono HO137.out (fun _ hk => hk.2)⟩, ⟨by (with_reducible repeat (first | apply Kd.R_alloc | apply Kd.R_drewN | apply Kd.R_drew)); exact Kd.R_mono HO144.out (fun _ hk => hk.2)⟩, ⟨by repeat (first | (with_reducible first | exact HB.out | apply below_alloc | apply pw_below_drewN | apply below_drew1) | exact HB.out)⟩⟩
        · rw [if_neg c18] at H
          have c18b0 : decide (a1 < 0) = false := decide_eq_false c18
          clear c18
          (first | rw [c18b0] | (simp only [i64_w, i32_w]; rw [c18b0]) | skip)
          have H' := Aside0.mk H
          clear H
          go_wp2
          repeat (go_quiet (fail); try go_wp2)
          go_meet
          case rel => exact ⟨_, (decide (a1 > 16)), (by first | rfl | (simp; done) | (simp [*]; done)), H', ⟨by first | omega | exact Nat.le_refl _⟩, ⟨by (with_reducible repeat (first | apply Kd.R_alloc | apply Kd.R_drewN | apply Kd.R_drew)); exact Kd.R_mono HO137.out (fun _ hk => hk.2)⟩, ⟨by (with_reducible repeat (first | apply Kd.R_alloc | apply Kd.R_drewN | apply Kd.R_drew)); exact Kd.R_mono HO144.out (fun _ hk => hk.2)⟩, ⟨by repeat (first | (with_reducible first | exact HB.out | apply below_alloc | apply pw_below_drewN | apply below_drew1) | exact HB.out)⟩⟩
      case rest =>
        clear HC10
        try clear c1
        try clear p2
        try clear c4
        try clear c8
        try clear c9
        try clear c9b0
        try clear c9b1
        try clear c18
        try clear c18b0
        obtain ⟨kq, x44_9, rfl, HA, HJ9, HO_5, HO_7, HB⟩ := hcut
        cases kq with
        | zero => exact absurd HA.out (by simp [culletlaw15_WalshDifferences.j0])
        | succ kj9 =>
          have H := HA.out
          clear HA
          simp only [culletlaw15_WalshDifferences.j0] at H
          by_cases c19 : x44_9 = true
          · subst c19
            have H1 : (if t135 = 7 then (if (t134.length : Int) = 0 then (some ((t141.length : Int) == 0)) else (some false)) else (some false)) = some r := by rw [if_pos rfl] at H; exact H
            clear H
            have H := H1
            clear H1
            by_cases c20 : t135 = 7
            · rw [if_pos c20] at H
              have c20b0 : (t135 == 7) = true := beq_iff_eq.mpr c20
              have c20b1 : (t135 != 7) = false := bne_eq_false_iff_eq.mpr c20
              clear c20
              by_cases c21 : (t134.length : Int) = 0
              · rw [if_pos c21] at H
                have c21b0 : ((t134.length : Int) == 0) = true := beq_iff_eq.mpr c21
                have c21b1 : ((t134.length : Int) != 0) = false := bne_eq_false_iff_eq.mpr c21
                clear c21
                obtain rfl := Option.some.inj H
                obtain ⟨Ao22, co22, eo22⟩ := Kd.R_slice HO_5.out
                subst eo22
                obtain ⟨Ao23, co23, eo23⟩ := Kd.R_slice HO_7.out
                subst eo23
                go_wp2
                repeat (go_quiet (fail); try go_wp2)
                go_ret
                exact ⟨by first | rfl | (simp [errW_none, errW_some] <;> rfl) | (simp [*, errW_none, errW_some] <;> rfl), by repeat (first | (with_reducible first | exact HB.out | apply below_alloc | apply pw_below_drewN | apply below_drew1) | exact HB.out)⟩
              · rw [if_neg c21] at H
                have c21b0 : ((t134.length : Int) == 0) = false := beq_eq_false_iff_ne.mpr c21
                have c21b1 : ((t134.length : Int) != 0) = true := bne_iff_ne.mpr c21
                have c21b2 : ¬ (t134 = []) := fun h_ => c21 (by rw [h_]; rfl)
                obtain rfl := Option.some.inj H
                obtain ⟨Ao24, co24, eo24⟩ := Kd.R_slice HO_5.out
                subst eo24
                go_wp2
                repeat (go_quiet (fail); try go_wp2)
                go_ret
                exact ⟨by first | rfl | (simp [errW_none, errW_some] <;> rfl) | (simp [*, errW_none, errW_some] <;> rfl), by repeat (first | (with_reducible first | exact HB.out | apply below_alloc | apply pw_below_drewN | apply below_drew1) | exact HB.out)⟩
            · rw [if_neg c20] at H
              have c20b0 : (t135 == 7) = false := beq_eq_false_iff_ne.mpr c20
              have c20b1 : (t135 != 7) = true := bne_iff_ne.mpr c20
              obtain rfl := Option.some.inj H
              go_wp2
              repeat (go_quiet (fail); try go_wp2)
              go_ret
              exact ⟨by first | rfl | (simp [errW_none, errW_some] <;> rfl) | (simp [*, errW_none, errW_some] <;> rfl), by repeat (first | (with_reducible first | exact HB.out | apply below_alloc | apply pw_below_drewN | apply below_drew1) | exact HB.out)⟩
          · replace c19 := Bool.eq_false_iff.mpr c19
            subst c19
            have H1 : (culletlaw15_WalshDifferences.l0 kj9 l0 a1 t134 t135 t141 l0 (l0.length : Int) 0) = some r := by rw [if_neg (show ¬ (false = true) by decide)] at H; exact H
            clear H
            have H := H1
            clear H1
            have H' := Aside0.mk H
            clear H
            go_wp2
            repeat (go_quiet (fail); try go_wp2)
            go_loopg [59] kj9 (fun kq v59 w' => ∃ (x59_2 : Int), v59 = .int .i64 x59_2 ∧ Aside0 (culletlaw15_WalshDifferences.l0 kq l0 a1 t134 t135 t141 l0 (l0.length : Int) x59_2 = some r) ∧ Aside0 (kq ≤ kj9) ∧ Aside0 (Kd.R (Kd.int .u16) 33 w' w.heap.size (fun k_ => some k_ ≠ (v143 : Value).ownBlock) v136 t134) ∧ Aside0 (Kd.R (Kd.int .u16) 33 w' w.heap.size (fun k_ => some k_ ≠ (v136 : Value).ownBlock) v143 t141) ∧ Aside0 (Below w.heap.size w w'))
            case atStart => exact ⟨(0), (by first | rfl | (simp; done) | (simp [*]; done)), H', ⟨Nat.le_refl _⟩, ⟨by (with_reducible repeat (first | apply Kd.R_alloc | apply Kd.R_drewN | apply Kd.R_drew)); exact HO_5.out⟩, ⟨by (with_reducible repeat (first | apply Kd.R_alloc | apply Kd.R_drewN | apply Kd.R_drew)); exact HO_7.out⟩, ⟨by repeat (first | (with_reducible first | exact HB.out | apply below_alloc | apply pw_below_drewN | apply below_drew1) | exact HB.out)⟩⟩
            case round =>
              clear H'
              try clear c1
              try clear c2
              try clear p2
              try clear c4
              try clear c8
              try clear c9
              try clear c9b0
              try clear c9b1
              try clear c18
              try clear c18b0
              try clear c19
              try clear c20
              try clear c20b0
              try clear c20b1
              try clear c21
              try clear c21b0
              try clear c21b1
              try clear c21b2
              try clear p2
              obtain ⟨x59_2, rfl, HA, HK2, HO_5, HO_7, HB⟩ := hrel
              cases gk with
              | zero => exact absurd HA.out (by simp [culletlaw15_WalshDifferences.l0])
              | succ k2 =>
                have H := HA.out
                clear HA
                simp only [culletlaw15_WalshDifferences.l0] at H
                by_cases c25 : x59_2 < (l0.length : Int)
                · rw [if_pos c25] at H
                  have c25b0 : decide (x59_2 < (l0.length : Int)) = true := decide_eq_true c25
                  clear c25
                  by_cases c26 : 0 ≤ x59_2
                  · rw [if_pos c26] at H
                    have c26b0 : decide (0 ≤ x59_2) = true := decide_eq_true c26
                    clear c26
                    by_cases c27 : x59_2 < (l0.length : Int)
                    · rw [if_pos c27] at H
                      have c27b0 : decide (x59_2 < (l0.length : Int)) = true := decide_eq_true c27
                      clear c27
                      by_cases c28 : (rd l0 x59_2) < 0
                      · rw [if_pos c28] at H
                        have c28b0 : decide ((rd l0 x59_2) < 0) = true := decide_eq_true c28
                        clear c28
                        by_cases c29 : t135 = 31
                        · rw [if_pos c29] at H
                          have c29b0 : (t135 == 31) = true := beq_iff_eq.mpr c29
                          have c29b1 : (t135 != 31) = false := bne_eq_false_iff_eq.mpr c29
                          clear c29
                          by_cases c30 : (t134.length : Int) = 0
                          · rw [if_pos c30] at H
                            have c30b0 : ((t134.length : Int) == 0) = true := beq_iff_eq.mpr c30
                            have c30b1 : ((t134.length : Int) != 0) = false := bne_eq_false_iff_eq.mpr c30
                            clear c30
                            obtain rfl := Option.some.inj H
                            have p145 : 0 ≤ (x59_2 : Int) := of_decide_eq_true (by first | (with_reducible assumption) | assumption)
                            have q145 : x59_2 < (l0.length : Int) := of_decide_eq_true (by first | (with_reducible assumption) | assumption)
                            obtain ⟨ad145, e145, hx145_0⟩ := Kd.at_int HR0.out x59_2 p145 q145
                            cases e145
                            replace hx145_0 := (HB.out.cell (World.block_lt_of_cell? w _ hx145_0)).trans hx145_0
                            replace p145 := eq_true p145
                            replace q145 := eq_true q145
                            obtain ⟨Ao31, co31, eo31⟩ := Kd.R_slice HO_5.out
                            subst eo31
                            obtain ⟨Ao32, co32, eo32⟩ := Kd.R_slice HO_7.out
                            subst eo32
                            go_wp2
                            repeat (go_quiet (fail); try go_wp2)
                            go_ret
                            exact ⟨by first | rfl | (simp [errW_none, errW_some] <;> rfl) | (simp [*, errW_none, errW_some] <;> rfl), by repeat (first | (with_reducible first | exact HB.out | apply below_alloc | apply pw_below_drewN | apply below_drew1) | exact HB.out)⟩
                          · rw [if_neg c30] at H
                            have c30b0 : ((t134.length : Int) == 0) = false := beq_eq_false_iff_ne.mpr c30
                            have c30b1 : ((t134.length : Int) != 0) = true := bne_iff_ne.mpr c30
                            have c30b2 : ¬ (t134 = []) := fun h_ => c30 (by rw [h_]; rfl)
                            obtain rfl := Option.some.inj H
                            have p145 : 0 ≤ (x59_2 : Int) := of_decide_eq_true (by first | (with_reducible assumption) | assumption)
                            have q145 : x59_2 < (l0.length : Int) := of_decide_eq_true (by first | (with_reducible assumption) | assumption)
                            obtain ⟨ad145, e145, hx145_0⟩ := Kd.at_int HR0.out x59_2 p145 q145
                            cases e145
                            replace hx145_0 := (HB.out.cell (World.block_lt_of_cell? w _ hx145_0)).trans hx145_0
                            replace p145 := eq_true p145
                            replace q145 := eq_true q145
                            obtain ⟨Ao33, co33, eo33⟩ := Kd.R_slice HO_5.out
                            subst eo33
                            go_wp2
                            repeat (go_quiet (fail); try go_wp2)
                            go_ret
                            exact ⟨by first | rfl | (simp [errW_none, errW_some] <;> rfl) | (simp [*, errW_none, errW_some] <;> rfl), by repeat (first | (with_reducible first | exact HB.out | apply below_alloc | apply pw_below_drewN | apply below_drew1) | exact HB.out)⟩
                        · rw [if_neg c29] at H
                          have c29b0 : (t135 == 31) = false := beq_eq_false_iff_ne.mpr c29
                          have c29b1 : (t135 != 31) = true := bne_iff_ne.mpr c29
                          obtain rfl := Option.some.inj H
                          have p145 : 0 ≤ (x59_2 : Int) := of_decide_eq_true (by first | (with_reducible assumption) | assumption)
                          have q145 : x59_2 < (l0.length : Int) := of_decide_eq_true (by first | (with_reducible assumption) | assumption)
                          obtain ⟨ad145, e145, hx145_0⟩ := Kd.at_int HR0.out x59_2 p145 q145
                          cases e145
                          replace hx145_0 := (HB.out.cell (World.block_lt_of_cell? w _ hx145_0)).trans hx145_0
                          replace p145 := eq_true p145
                          replace q145 := eq_true q145
                          go_wp2
                          repeat (go_quiet (fail); try go_wp2)
                          go_ret
                          exact ⟨by first | rfl | (simp [errW_none, errW_some] <;> rfl) | (simp [*, errW_none, errW_some] <;> rfl), by repeat (first | (with_reducible first | exact HB.out | apply below_alloc | apply pw_below_drewN | apply below_drew1) | exact HB.out)⟩
                      · rw [if_neg c28] at H
                        have c28b0 : decide ((rd l0 x59_2) < 0) = false := decide_eq_false c28
                        clear c28
                        obtain ⟨ji34, hji34⟩ : ∃ j_ : Int, (IntKind.u64.wrap (a1)) = j_ := ⟨_, rfl⟩
                        replace H : (if 0 ≤ (ji34) then (if (rd l0 x59_2) ≥ (shl .i64 1 (ji34)) then (if t135 = 31 then (if (t134.length : Int) = 0 then (some ((t141.length : Int) == 0)) else (some false)) else (some false)) else (if x59_2 > 0 then (if 0 ≤ (wrap64 (x59_2 - 1)) then (if (wrap64 (x59_2 - 1)) < (l0.length : Int) then (if (rd l0 x59_2) ≤ (rd l0 (wrap64 (x59_2 - 1))) then (if t135 = 31 then (if (t134.length : Int) = 0 then (some ((t141.length : Int) == 0)) else (some false)) else (some false)) else (culletlaw15_WalshDifferences.l0 k2 l0 a1 t134 t135 t141 l0 (l0.length : Int) (wrap64 (x59_2 + 1)))) else (none)) else (none)) else (culletlaw15_WalshDifferences.l0 k2 l0 a1 t134 t135 t141 l0 (l0.length : Int) (wrap64 (x59_2 + 1))))) else (none)) = some r := by first | (rw [hji34] at H; exact H) | (simp only [hji34] at H ⊢; exact H)
                        by_cases c35 : 0 ≤ (ji34)
                        · rw [if_pos c35] at H
                          have c35b0 := eq_true c35
                          have c35b1 : decide (0 ≤ (ji34)) = true := decide_eq_true c35
                          clear c35
                          obtain ⟨ji36, hji36⟩ : ∃ j_ : Int, (shl .i64 1 (ji34)) = j_ := ⟨_, rfl⟩
                          replace H : (if (rd l0 x59_2) ≥ (ji36) then (if t135 = 31 then (if (t134.length : Int) = 0 then (some ((t141.length : Int) == 0)) else (some false)) else (some false)) else (if x59_2 > 0 then (if 0 ≤ (wrap64 (x59_2 - 1)) then (if (wrap64 (x59_2 - 1)) < (l0.length : Int) then (if (rd l0 x59_2) ≤ (rd l0 (wrap64 (x59_2 - 1))) then (if t135 = 31 then (if (t134.length : Int) = 0 then (some ((t141.length : Int) == 0)) else (some false)) else (some false)) else (culletlaw15_WalshDifferences.l0 k2 l0 a1 t134 t135 t141 l0 (l0.length : Int) (wrap64 (x59_2 + 1)))) else (none)) else (none)) else (culletlaw15_WalshDifferences.l0 k2 l0 a1 t134 t135 t141 l0 (l0.length : Int) (wrap64 (x59_2 + 1))))) = some r := by first | (rw [hji36] at H; exact H) | (simp only [hji36] at H ⊢; exact H)
                          have hji36_ : (IntKind.i64.wrap (1 * 2 ^ min (ji34).toNat 64)) = ji36 := hji36
                          have hji36z : (ji34) ≤ 64 → (IntKind.i64.wrap (1 * 2 ^ (ji34).toNat)) = ji36 := shl_small hji36
                          have hji36u : (IntKind.i64.wrap (2 ^ min (ji34).toNat 64)) = ji36 := by have h_ := hji36_; rw [Int.one_mul] at h_; exact h_
                          have hji36v : (ji34) ≤ 64 → (IntKind.i64.wrap (2 ^ (ji34).toNat)) = ji36 := fun hle_ => by have h_ := hji36z hle_; rw [Int.one_mul] at h_; exact h_
                          have hji36y : (wrap64 (1 * 2 ^ min (ji34).toNat 64)) = ji36 := (i64_w _).symm.trans hji36_
                          have hji36x : (ji34) ≤ 64 → (wrap64 (1 * 2 ^ (ji34).toNat)) = ji36 := fun h_ => (i64_w _).symm.trans (hji36z h_)
                          by_cases c37 : (rd l0 x59_2) ≥ (ji36)
                          · rw [if_pos c37] at H
                            have c37b0 : decide ((ji36) ≤ (rd l0 x59_2)) = true := decide_eq_true c37
                            clear c37
                            by_cases c38 : t135 = 31
                            · rw [if_pos c38] at H
                              have c38b0 : (t135 == 31) = true := beq_iff_eq.mpr c38
                              have c38b1 : (t135 != 31) = false := bne_eq_false_iff_eq.mpr c38
                              clear c38
                              by_cases c39 : (t134.length : Int) = 0
                              · rw [if_pos c39] at H
                                have c39b0 : ((t134.length : Int) == 0) = true := beq_iff_eq.mpr c39
                                have c39b1 : ((t134.length : Int) != 0) = false := bne_eq_false_iff_eq.mpr c39
                                clear c39
                                obtain rfl := Option.some.inj H
                                have p145 : 0 ≤ (x59_2 : Int) := of_decide_eq_true (by first | (with_reducible assumption) | assumption)
                                have q145 : x59_2 < (l0.length : Int) := of_decide_eq_true (by first | (with_reducible assumption) | assumption)
                                obtain ⟨ad145, e145, hx145_0⟩ := Kd.at_int HR0.out x59_2 p145 q145
                                cases e145
                                replace hx145_0 := (HB.out.cell (World.block_lt_of_cell? w _ hx145_0)).trans hx145_0
                                replace p145 := eq_true p145
                                replace q145 := eq_true q145
                                obtain ⟨Ao40, co40, eo40⟩ := Kd.R_slice HO_5.out
                                subst eo40
                                obtain ⟨Ao41, co41, eo41⟩ := Kd.R_slice HO_7.out
                                subst eo41
                                go_wp2
                                repeat (go_quiet (fail); try go_wp2)
                                go_ret
                                exact ⟨by first | rfl | (simp [errW_none, errW_some] <;> rfl) | (simp only [← hji34, ← hji36]; first | rfl | (simp [errW_none, errW_some] <;> rfl)) | (simp [*, errW_none, errW_some] <;> rfl), by repeat (first | (with_reducible first | exact HB.out | apply below_alloc | apply pw_below_drewN | apply below_drew1) | exact HB.out)⟩
                              · rw [if_neg c39] at H
                                have c39b0 : ((t134.length : Int) == 0) = false := beq_eq_false_iff_ne.mpr c39
                                have c39b1 : ((t134.length : Int) != 0) = true := bne_iff_ne.mpr c39
                                have c39b2 : ¬ (t134 = []) := fun h_ => c39 (by rw [h_]; rfl)
                                obtain rfl := Option.some.inj H
                                have p145 : 0 ≤ (x59_2 : Int) := of_decide_eq_true (by first | (with_reducible assumption) | assumption)
                                have q145 : x59_2 < (l0.length : Int) := of_decide_eq_true (by first | (with_reducible assumption) | assumption)
                                obtain ⟨ad145, e145, hx145_0⟩ := Kd.at_int HR0.out x59_2 p145 q145
                                cases e145
                                replace hx145_0 := (HB.out.cell (World.block_lt_of_cell? w _ hx145_0)).trans hx145_0
                                replace p145 := eq_true p145
                                replace q145 := eq_true q145
                                obtain ⟨Ao42, co42, eo42⟩ := Kd.R_slice HO_5.out
                                subst eo42
                                go_wp2
                                repeat (go_quiet (fail); try go_wp2)
                                go_ret
                                exact ⟨by first | rfl | (simp [errW_none, errW_some] <;> rfl) | (simp only [← hji34, ← hji36]; first | rfl | (simp [errW_none, errW_some] <;> rfl)) | (simp [*, errW_none, errW_some] <;> rfl), by repeat (first | (with_reducible first | exact HB.out | apply below_alloc | apply pw_below_drewN | apply below_drew1) | exact HB.out)⟩
                            · rw [if_neg c38] at H
                              have c38b0 : (t135 == 31) = false := beq_eq_false_iff_ne.mpr c38
                              have c38b1 : (t135 != 31) = true := bne_iff_ne.mpr c38
                              obtain rfl := Option.some.inj H
                              have p145 : 0 ≤ (x59_2 : Int) := of_decide_eq_true (by first | (with_reducible assumption) | assumption)
                              have q145 : x59_2 < (l0.length : Int) := of_decide_eq_true (by first | (with_reducible assumption) | assumption)
                              obtain ⟨ad145, e145, hx145_0⟩ := Kd.at_int HR0.out x59_2 p145 q145
                              cases e145
                              replace hx145_0 := (HB.out.cell (World.block_lt_of_cell? w _ hx145_0)).trans hx145_0
                              replace p145 := eq_true p145
                              replace q145 := eq_true q145
                              go_wp2
                              repeat (go_quiet (fail); try go_wp2)
                              go_ret
                              exact ⟨by first | rfl | (simp [errW_none, errW_some] <;> rfl) | (simp only [← hji34, ← hji36]; first | rfl | (simp [errW_none, errW_some] <;> rfl)) | (simp [*, errW_none, errW_some] <;> rfl), by repeat (first | (with_reducible first | exact HB.out | apply below_alloc | apply pw_below_drewN | apply below_drew1) | exact HB.out)⟩
                          · rw [if_neg c37] at H
                            have c37b0 : decide ((ji36) ≤ (rd l0 x59_2)) = false := decide_eq_false c37
                            clear c37
                            by_cases c43 : x59_2 > 0
                            · rw [if_pos c43] at H
                              have c43b0 : decide (0 < x59_2) = true := decide_eq_true c43
                              clear c43
                              obtain ⟨ji44, hji44⟩ : ∃ j_ : Int, (wrap64 (x59_2 - 1)) = j_ := ⟨_, rfl⟩
                              replace H : (if 0 ≤ (ji44) then (if (ji44) < (l0.length : Int) then (if (rd l0 x59_2) ≤ (rd l0 (ji44)) then (if t135 = 31 then (if (t134.length : Int) = 0 then (some ((t141.length : Int) == 0)) else (some false)) else (some false)) else (culletlaw15_WalshDifferences.l0 k2 l0 a1 t134 t135 t141 l0 (l0.length : Int) (wrap64 (x59_2 + 1)))) else (none)) else (none)) = some r := by first | (rw [hji44] at H; exact H) | (simp only [hji44] at H ⊢; exact H)
                              have hji44w : (IntKind.i64.wrap (x59_2 - 1)) = ji44 := (i64_w _).trans hji44
                              by_cases c45 : 0 ≤ (ji44)
                              · rw [if_pos c45] at H
                                have c45b0 : decide (0 ≤ (ji44)) = true := decide_eq_true c45
                                clear c45
                                by_cases c46 : (ji44) < (l0.length : Int)
                                · rw [if_pos c46] at H
                                  have c46b0 : decide ((ji44) < (l0.length : Int)) = true := decide_eq_true c46
                                  clear c46
                                  by_cases c47 : (rd l0 x59_2) ≤ (rd l0 (ji44))
                                  · rw [if_pos c47] at H
                                    have c47b0 : decide ((rd l0 x59_2) ≤ (rd l0 (ji44))) = true := decide_eq_true c47
                                    clear c47
                                    by_cases c48 : t135 = 31
                                    · rw [if_pos c48] at H
                                      have c48b0 : (t135 == 31) = true := beq_iff_eq.mpr c48
                                      have c48b1 : (t135 != 31) = false := bne_eq_false_iff_eq.mpr c48
                                      clear c48
                                      by_cases c49 : (t134.length : Int) = 0
                                      · rw [if_pos c49] at H
                                        have c49b0 : ((t134.length : Int) == 0) = true := beq_iff_eq.mpr c49
                                        have c49b1 : ((t134.length : Int) != 0) = false := bne_eq_false_iff_eq.mpr c49
                                        clear c49
                                        obtain rfl := Option.some.inj H
                                        have p145 : 0 ≤ (x59_2 : Int) := of_decide_eq_true (by first | (with_reducible assumption) | assumption)
                                        have q145 : x59_2 < (l0.length : Int) := of_decide_eq_true (by first | (with_reducible assumption) | assumption)
                                        obtain ⟨ad145, e145, hx145_0⟩ := Kd.at_int HR0.out x59_2 p145 q145
                                        cases e145
                                        replace hx145_0 := (HB.out.cell (World.block_lt_of_cell? w _ hx145_0)).trans hx145_0
                                        replace p145 := eq_true p145
                                        replace q145 := eq_true q145
                                        have p146 : 0 ≤ ((ji44) : Int) := of_decide_eq_true (by first | (with_reducible assumption) | assumption)
                                        have q146 : (ji44) < (l0.length : Int) := of_decide_eq_true (by first | (with_reducible assumption) | assumption)
                                        obtain ⟨ad146, e146, hx146_0⟩ := Kd.at_int HR0.out (ji44) p146 q146
                                        obtain rfl : ad145 = ad146 := (by injection e146)
                                        replace hx146_0 := (HB.out.cell (World.block_lt_of_cell? w _ hx146_0)).trans hx146_0
                                        replace p146 := eq_true p146
                                        replace q146 := eq_true q146
                                        obtain ⟨Ao50, co50, eo50⟩ := Kd.R_slice HO_5.out
                                        subst eo50
                                        obtain ⟨Ao51, co51, eo51⟩ := Kd.R_slice HO_7.out
                                        subst eo51
                                        go_wp2
                                        repeat (go_quiet (fail); try go_wp2)
                                        go_ret
                                        exact ⟨by first | rfl | (simp [errW_none, errW_some] <;> rfl) | (simp only [← hji34, ← hji36, ← hji44]; first | rfl | (simp [errW_none, errW_some] <;> rfl)) | (simp [*, errW_none, errW_some] <;> rfl), by repeat (first | (with_reducible first | exact HB.out | apply below_alloc | apply pw_below_drewN | apply below_drew1) | exact HB.out)⟩
                                      · rw [if_neg c49] at H
                                        have c49b0 : ((t134.length : Int) == 0) = false := beq_eq_false_iff_ne.mpr c49
                                        have c49b1 : ((t134.length : Int) != 0) = true := bne_iff_ne.mpr c49
                                        have c49b2 : ¬ (t134 = []) := fun h_ => c49 (by rw [h_]; rfl)
                                        obtain rfl := Option.some.inj H
                                        have p145 : 0 ≤ (x59_2 : Int) := of_decide_eq_true (by first | (with_reducible assumption) | assumption)
                                        have q145 : x59_2 < (l0.length : Int) := of_decide_eq_true (by first | (with_reducible assumption) | assumption)
                                        obtain ⟨ad145, e145, hx145_0⟩ := Kd.at_int HR0.out x59_2 p145 q145
                                        cases e145
                                        replace hx145_0 := (HB.out.cell (World.block_lt_of_cell? w _ hx145_0)).trans hx145_0
                                        replace p145 := eq_true p145
                                        replace q145 := eq_true q145
                                        have p146 : 0 ≤ ((ji44) : Int) := of_decide_eq_true (by first | (with_reducible assumption) | assumption)
                                        have q146 : (ji44) < (l0.length : Int) := of_decide_eq_true (by first | (with_reducible assumption) | assumption)
                                        obtain ⟨ad146, e146, hx146_0⟩ := Kd.at_int HR0.out (ji44) p146 q146
                                        obtain rfl : ad145 = ad146 := (by injection e146)
                                        replace hx146_0 := (HB.out.cell (World.block_lt_of_cell? w _ hx146_0)).trans hx146_0
                                        replace p146 := eq_true p146
                                        replace q146 := eq_true q146
                                        obtain ⟨Ao52, co52, eo52⟩ := Kd.R_slice HO_5.out
                                        subst eo52
                                        go_wp2
                                        repeat (go_quiet (fail); try go_wp2)
                                        go_ret
                                        exact ⟨by first | rfl | (simp [errW_none, errW_some] <;> rfl) | (simp only [← hji34, ← hji36, ← hji44]; first | rfl | (simp [errW_none, errW_some] <;> rfl)) | (simp [*, errW_none, errW_some] <;> rfl), by repeat (first | (with_reducible first | exact HB.out | apply below_alloc | apply pw_below_drewN | apply below_drew1) | exact HB.out)⟩
                                    · rw [if_neg c48] at H
                                      have c48b0 : (t135 == 31) = false := beq_eq_false_iff_ne.mpr c48
                                      have c48b1 : (t135 != 31) = true := bne_iff_ne.mpr c48
                                      obtain rfl := Option.some.inj H
                                      have p145 : 0 ≤ (x59_2 : Int) := of_decide_eq_true (by first | (with_reducible assumption) | assumption)
                                      have q145 : x59_2 < (l0.length : Int) := of_decide_eq_true (by first | (with_reducible assumption) | assumption)
                                      obtain ⟨ad145, e145, hx145_0⟩ := Kd.at_int HR0.out x59_2 p145 q145
                                      cases e145
                                      replace hx145_0 := (HB.out.cell (World.block_lt_of_cell? w _ hx145_0)).trans hx145_0
                                      replace p145 := eq_true p145
                                      replace q145 := eq_true q145
                                      have p146 : 0 ≤ ((ji44) : Int) := of_decide_eq_true (by first | (with_reducible assumption) | assumption)
                                      have q146 : (ji44) < (l0.length : Int) := of_decide_eq_true (by first | (with_reducible assumption) | assumption)
                                      obtain ⟨ad146, e146, hx146_0⟩ := Kd.at_int HR0.out (ji44) p146 q146
                                      obtain rfl : ad145 = ad146 := (by injection e146)
                                      replace hx146_0 := (HB.out.cell (World.block_lt_of_cell? w _ hx146_0)).trans hx146_0
                                      replace p146 := eq_true p146
                                      replace q146 := eq_true q146
                                      go_wp2
                                      repeat (go_quiet (fail); try go_wp2)
                                      go_ret
                                      exact ⟨by first | rfl | (simp [errW_none, errW_some] <;> rfl) | (simp only [← hji34, ← hji36, ← hji44]; first | rfl | (simp [errW_none, errW_some] <;> rfl)) | (simp [*, errW_none, errW_some] <;> rfl), by repeat (first | (with_reducible first | exact HB.out | apply below_alloc | apply pw_below_drewN | apply below_drew1) | exact HB.out)⟩
                                  · rw [if_neg c47] at H
                                    have c47b0 : decide ((rd l0 x59_2) ≤ (rd l0 (ji44))) = false := decide_eq_false c47
                                    clear c47
                                    have H' := Aside0.mk H
                                    clear H
                                    have p145 : 0 ≤ (x59_2 : Int) := of_decide_eq_true (by first | (with_reducible assumption) | assumption)
                                    have q145 : x59_2 < (l0.length : Int) := of_decide_eq_true (by first | (with_reducible assumption) | assumption)
                                    obtain ⟨ad145, e145, hx145_0⟩ := Kd.at_int HR0.out x59_2 p145 q145
                                    cases e145
                                    replace hx145_0 := (HB.out.cell (World.block_lt_of_cell? w _ hx145_0)).trans hx145_0
                                    replace p145 := eq_true p145
                                    replace q145 := eq_true q145
                                    have p146 : 0 ≤ ((ji44) : Int) := of_decide_eq_true (by first | (with_reducible assumption) | assumption)
                                    have q146 : (ji44) < (l0.length : Int) := of_decide_eq_true (by first | (with_reducible assumption) | assumption)
                                    obtain ⟨ad146, e146, hx146_0⟩ := Kd.at_int HR0.out (ji44) p146 q146
                                    obtain rfl : ad145 = ad146 := (by injection e146)
                                    replace hx146_0 := (HB.out.cell (World.block_lt_of_cell? w _ hx146_0)).trans hx146_0
                                    replace p146 := eq_true p146
                                    replace q146 := eq_true q146
                                    go_wp2
                                    repeat (go_quiet (fail); try go_wp2)
                                    go_roundg k2
                                    case measure => have := HJ9.out; have := HK2.out; omega
                                    case rel => exact ⟨(wrap64 (x59_2 + 1)), (by first | rfl | (simp; done) | (simp [*]; done)), H', ⟨by have := HJ9.out; have := HK2.out; omega⟩, ⟨by (with_reducible repeat (first | apply Kd.R_alloc | apply Kd.R_drewN | apply Kd.R_drew)); exact HO_5.out⟩, ⟨by (with_reducible repeat (first | apply Kd.R_alloc | apply Kd.R_drewN | apply Kd.R_drew)); exact HO_7.out⟩, ⟨by repeat (first | (with_reducible first | exact HB.out | apply below_alloc | apply pw_below_drewN | apply below_drew1) | exact HB.out)⟩⟩
                                · rw [if_neg c46] at H
                                  exact absurd H (by simp)
                              · rw [if_neg c45] at H
                                exact absurd H (by simp)
                            · rw [if_neg c43] at H
                              have c43b0 : decide (0 < x59_2) = false := decide_eq_false c43
                              clear c43
                              have H' := Aside0.mk H
                              clear H
                              have p145 : 0 ≤ (x59_2 : Int) := of_decide_eq_true (by first | (with_reducible assumption) | assumption)
                              have q145 : x59_2 < (l0.length : Int) := of_decide_eq_true (by first | (with_reducible assumption) | assumption)
                              obtain ⟨ad145, e145, hx145_0⟩ := Kd.at_int HR0.out x59_2 p145 q145
                              cases e145
                              replace hx145_0 := (HB.out.cell (World.block_lt_of_cell? w _ hx145_0)).trans hx145_0
                              replace p145 := eq_true p145
                              replace q145 := eq_true q145
                              go_wp2
                              repeat (go_quiet (fail); try go_wp2)
                              go_roundg k2
                              case measure => have := HJ9.out; have := HK2.out; omega
                              case rel => exact ⟨(wrap64 (x59_2 + 1)), (by first | rfl | (simp; done) | (simp [*]; done)), H', ⟨by have := HJ9.out; have := HK2.out; omega⟩, ⟨by (with_reducible repeat (first | apply Kd.R_alloc | apply Kd.R_drewN | apply Kd.R_drew)); exact HO_5.out⟩, ⟨by (with_reducible repeat (first | apply Kd.R_alloc | apply Kd.R_drewN | apply Kd.R_drew)); exact HO_7.out⟩, ⟨by repeat (first | (with_reducible first | exact HB.out | apply below_alloc | apply pw_below_drewN | apply below_drew1) | exact HB.out)⟩⟩
                        · rw [if_neg c35] at H
                          exact absurd H (by simp)
                    · rw [if_neg c27] at H
                      exact absurd H (by simp)
                  · rw [if_neg c26] at H
                    exact absurd H (by simp)
                · rw [if_neg c25] at H
                  have c25b0 : decide (x59_2 < (l0.length : Int)) = false := decide_eq_false c25
                  clear c25
                  have HC53 := Aside0.mk H
                  clear H
                  go_upto_region 15 with (fail)
                  repeat (go_quiet (fail); go_upto_region 15 with (fail))
                  go_cut [116] (fun v116 wc => ∃ (kq : Nat) (x116_52 : Bool), v116 = .bool x116_52 ∧ Aside0 (culletlaw15_WalshDifferences.j2 kq l0 t134 t141 x116_52 = some r) ∧ Aside0 (kq ≤ k2) ∧ Aside0 (Kd.R (Kd.int .u16) 33 wc w.heap.size (fun k_ => some k_ ≠ (v143 : Value).ownBlock) v136 t134) ∧ Aside0 (Kd.R (Kd.int .u16) 33 wc w.heap.size (fun k_ => some k_ ≠ (v136 : Value).ownBlock) v143 t141) ∧ Aside0 (Below w.heap.size w wc))
                  case first =>
                    have H := HC53.out
                    clear HC53
                    by_cases c54 : t135 = 0
                    · rw [if_pos c54] at H
                      have c54b0 : (t135 == 0) = true := beq_iff_eq.mpr c54
                      have c54b1 : (t135 != 0) = false := bne_eq_false_iff_eq.mpr c54
                      clear c54
                      (first | rw [c54b0] | (simp only [i64_w, i32_w]; rw [c54b0]) | skip)
                      obtain ⟨ji55, hji55⟩ : ∃ j_ : Int, (IntKind.u64.wrap (a1)) = j_ := ⟨_, rfl⟩
                      replace H : (if 0 ≤ (ji55) then (if (t134.length : Int) = (shl .i64 1 (ji55)) then (culletlaw15_WalshDifferences.j2 k2 l0 t134 t141 ((t141.length : Int) != (shl .i64 1 (ji55)))) else (culletlaw15_WalshDifferences.j2 k2 l0 t134 t141 true)) else (none)) = some r := by first | (rw [hji55] at H; exact H) | (simp only [hji55] at H ⊢; exact H)
                      by_cases c56 : 0 ≤ (ji55)
                      · rw [if_pos c56] at H
                        have c56b0 := eq_true c56
                        have c56b1 : decide (0 ≤ (ji55)) = true := decide_eq_true c56
                        clear c56
                        obtain ⟨ji57, hji57⟩ : ∃ j_ : Int, (shl .i64 1 (ji55)) = j_ := ⟨_, rfl⟩
                        replace H : (if (t134.length : Int) = (ji57) then (culletlaw15_WalshDifferences.j2 k2 l0 t134 t141 ((t141.length : Int) != (ji57))) else (culletlaw15_WalshDifferences.j2 k2 l0 t134 t141 true)) = some r := by first | (rw [hji57] at H; exact H) | (simp only [hji57] at H ⊢; exact H)
                        have hji57_ : (IntKind.i64.wrap (1 * 2 ^ min (ji55).toNat 64)) = ji57 := hji57
                        have hji57z : (ji55) ≤ 64 → (IntKind.i64.wrap (1 * 2 ^ (ji55).toNat)) = ji57 := shl_small hji57
                        have hji57u : (IntKind.i64.wrap (2 ^ min (ji55).toNat 64)) = ji57 := by have h_ := hji57_; rw [Int.one_mul] at h_; exact h_
                        have hji57v : (ji55) ≤ 64 → (IntKind.i64.wrap (2 ^ (ji55).toNat)) = ji57 := fun hle_ => by have h_ := hji57z hle_; rw [Int.one_mul] at h_; exact h_
                        have hji57y : (wrap64 (1 * 2 ^ min (ji55).toNat 64)) = ji57 := (i64_w _).symm.trans hji57_
                        have hji57x : (ji55) ≤ 64 → (wrap64 (1 * 2 ^ (ji55).toNat)) = ji57 := fun h_ => (i64_w _).symm.trans (hji57z h_)
                        by_cases c58 : (t134.length : Int) = (ji57)
                        · rw [if_pos c58] at H
                          have c58b0 : ((t134.length : Int) == (ji57)) = true := beq_iff_eq.mpr c58
                          have c58b1 : ((t134.length : Int) != (ji57)) = false := bne_eq_false_iff_eq.mpr c58
                          clear c58
                          have c59b0 := eq_true (of_decide_eq_true (by first | (with_reducible assumption) | assumption) : 0 ≤ (ji55))
                          have H' := Aside0.mk H
                          clear H
                          obtain ⟨Ao61, co61, eo61⟩ := Kd.R_slice HO_5.out
                          subst eo61
                          obtain ⟨Ao62, co62, eo62⟩ := Kd.R_slice HO_7.out
                          subst eo62
                          go_wp2
                          repeat (go_quiet (fail); try go_wp2)
                          go_meet
                          case rel => exact ⟨_, (((t141.length : Int) != (ji57))), (by first | rfl | (simp; done) | (simp only [← hji57] <;> (first | rfl | simp)) | (simp [*]; done)), H', ⟨by have := HJ9.out; have := HK2.out; first | omega | exact Nat.le_refl _⟩, ⟨by (with_reducible repeat (first | apply Kd.R_alloc | apply Kd.R_drewN | apply Kd.R_drew)); exact HO_5.out⟩, ⟨by (with_reducible repeat (first | apply Kd.R_alloc | apply Kd.R_drewN | apply Kd.R_drew)); exact HO_7.out⟩, ⟨by repeat (first | (with_reducible first | exact HB.out | apply below_alloc | apply pw_below_drewN | apply below_drew1) | exact HB.out)⟩⟩
                        · rw [if_neg c58] at H
                          have c58b0 : ((t134.length : Int) == (ji57)) = false := beq_eq_false_iff_ne.mpr c58
                          have c58b1 : ((t134.length : Int) != (ji57)) = true := bne_iff_ne.mpr c58
                          have H' := Aside0.mk H
                          clear H
                          obtain ⟨Ao63, co63, eo63⟩ := Kd.R_slice HO_5.out
                          subst eo63
                          go_wp2
                          repeat (go_quiet (fail); try go_wp2)
                          go_meet
                          case rel => exact ⟨_, (true), (by first | rfl | (simp; done) | (simp [*]; done)), H', ⟨by have := HJ9.out; have := HK2.out; first | omega | exact Nat.le_refl _⟩, ⟨by (with_reducible repeat (first | apply Kd.R_alloc | apply Kd.R_drewN | apply Kd.R_drew)); exact HO_5.out⟩, ⟨by (with_reducible repeat (first | apply Kd.R_alloc | apply Kd.R_drewN | apply Kd.R_drew)); exact HO_7.out⟩, ⟨by repeat (first | (with_reducible first | exact HB.out | apply below_alloc | apply pw_below_drewN | apply below_drew1) | exact HB.out)⟩⟩
                      · rw [if_neg c56] at H
                        exact absurd H (by simp)
                    · rw [if_neg c54] at H
                      have c54b0 : (t135 == 0) = false := beq_eq_false_iff_ne.mpr c54
                      have c54b1 : (t135 != 0) = true := bne_iff_ne.mpr c54
                      (first | rw [c54b0] | (simp only [i64_w, i32_w]; rw [c54b0]) | skip)
                      have H' := Aside0.mk H
                      clear H
                      go_wp2
                      repeat (go_quiet (fail); try go_wp2)
                      go_meet
                      case rel => exact ⟨_, (true), (by first | rfl | (simp; done) | (simp [*]; done)), H', ⟨by have := HJ9.out; have := HK2.out; first | omega | exact Nat.le_refl _⟩, ⟨by (with_reducible repeat (first | apply Kd.R_alloc | apply Kd.R_drewN | apply Kd.R_drew)); exact HO_5.out⟩, ⟨by (with_reducible repeat (first | apply Kd.R_alloc | apply Kd.R_drewN | apply Kd.R_drew)); exact HO_7.out⟩, ⟨by repeat (first | (with_reducible first | exact HB.out | apply below_alloc | apply pw_below_drewN | apply below_drew1) | exact HB.out)⟩⟩
                  case rest =>
                    clear HC53
                    try clear c1
                    try clear p1
                    try clear q1
                    try clear hx1
                    try clear c2
                    try clear p2
                    try clear c3
                    try clear c4
                    try clear c5
                    try clear c6
                    try clear p6
                    try clear c8
                    try clear c9
                    try clear c9b0
                    try clear c9b1
                    try clear p14
                    try clear q14
                    try clear hx14
                    try clear c18
                    try clear c18b0
                    try clear c19
                    try clear c20
                    try clear c20b0
                    try clear c20b1
                    try clear c21
                    try clear c21b0
                    try clear c21b1
                    try clear c21b2
                    try clear c25
                    try clear c25b0
                    try clear c26
                    try clear c26b0
                    try clear c27
                    try clear c27b0
                    try clear c28
                    try clear c28b0
                    try clear c29
                    try clear c29b0
                    try clear c29b1
                    try clear c30
                    try clear c30b0
                    try clear c30b1
                    try clear c30b2
                    try clear c35
                    try clear c35b0
                    try clear c35b1
                    try clear c37
                    try clear c37b0
                    try clear c38
                    try clear c38b0
                    try clear c38b1
                    try clear c39
                    try clear c39b0
                    try clear c39b1
                    try clear c39b2
                    try clear c43
                    try clear c43b0
                    try clear c45
                    try clear c45b0
                    try clear c46
                    try clear c46b0
                    try clear c47
                    try clear c47b0
                    try clear c48
                    try clear c48b0
                    try clear c48b1
                    try clear c49
                    try clear c49b0
                    try clear c49b1
                    try clear c49b2
                    try clear c54
                    try clear c54b0
                    try clear c54b1
                    try clear c56
                    try clear c56b0
                    try clear c56b1
                    try clear c58
                    try clear c58b0
                    try clear c58b1
                    try clear c59
                    try clear c59b0
                    try clear c60
                    try clear c60b0
                    try clear hx145_0
                    try clear hx146_0
                    try clear p145
                    try clear p146
                    try clear p2
                    try clear q145
                    try clear q146
                    obtain ⟨kq, x116_52, rfl, HA, HJ52, HO_5, HO_7, HB⟩ := hcut
                    cases kq with
                    | zero => exact absurd HA.out (by simp [culletlaw15_WalshDifferences.j2])
                    | succ kj52 =>
                      have H := HA.out
                      clear HA
                      simp only [culletlaw15_WalshDifferences.j2] at H
                      by_cases c64 : x116_52 = true
                      · subst c64
                        have H1 : (some false) = some r := by rw [if_pos rfl] at H; exact H
                        clear H
                        have H := H1
                        clear H1
                        obtain rfl := Option.some.inj H
                        go_wp2
                        repeat (go_quiet (fail); try go_wp2)
                        go_ret
                        exact ⟨by first | rfl | (simp [errW_none, errW_some] <;> rfl) | (simp [*, errW_none, errW_some] <;> rfl), by repeat (first | (with_reducible first | exact HB.out | apply below_alloc | apply pw_below_drewN | apply below_drew1) | exact HB.out)⟩
                      · replace c64 := Bool.eq_false_iff.mpr c64
                        subst c64
                        have H1 : ((gf16_New.f).bind fun _ => ((gf16_Tables_Exp.f 1).bind fun t148 => (if t148 = 2 then (culletlaw15_WalshDifferences.l1 kj52 l0 t134 t141 ([] : List Int) (t134.length : Int) 0) else (some false)))) = some r := by rw [if_neg (show ¬ (false = true) by decide)] at H; exact H
                        clear H
                        have H := H1
                        clear H1
                        replace H := Option.bind_eq_some_iff.mp H
                        obtain ⟨_, A650, H⟩ := H
                        replace H : ((gf16_Tables_Exp.f 1).bind fun t148 => (if t148 = 2 then (culletlaw15_WalshDifferences.l1 kj52 l0 t134 t141 ([] : List Int) (t134.length : Int) 0) else (some false))) = some r := H
                        have A65 := Aside0.mk A650
                        clear A650
                        replace H := Option.bind_eq_some_iff.mp H
                        obtain ⟨t148, A660, H⟩ := H
                        replace H : (if t148 = 2 then (culletlaw15_WalshDifferences.l1 kj52 l0 t134 t141 ([] : List Int) (t134.length : Int) 0) else (some false)) = some r := H
                        have A66 := Aside0.mk A660
                        clear A660
                        by_cases c67 : t148 = 2
                        · rw [if_pos c67] at H
                          have c67b0 : (t148 == 2) = true := beq_iff_eq.mpr c67
                          have c67b1 : (t148 != 2) = false := bne_eq_false_iff_eq.mpr c67
                          clear c67
                          have H' := Aside0.mk H
                          clear H
                          go_wp2_with (first | (go_at_call 31; (with_reducible refine (gf16_New.calls   w _ ?side1 A65.out).mono ?_); (case side1 => repeat (first | (with_reducible first | exact HB.out | apply below_alloc | apply pw_below_drewN | apply below_drew1) | exact HB.out)); rintro e w68 ⟨g147, rfl, hi, hb, hb2⟩; have n0_ := Aside0.mk (Kd.R_below (by (with_reducible repeat (first | apply Kd.R_alloc | apply Kd.R_drewN | apply Kd.R_drew)); exact HO_5.out) hb2); have n1_ := Aside0.mk (Kd.R_below (by (with_reducible repeat (first | apply Kd.R_alloc | apply Kd.R_drewN | apply Kd.R_drew)); exact HO_7.out) hb2); have n2_ := Aside0.mk (hb); have n3_ := Aside0.mk (hi); clear HO_5; clear HO_7; clear HB; have HO_5 := n0_; have HO_7 := n1_; have HB := n2_; have HI147 := n3_; clear n0_ n1_ n2_ n3_; (try clear hb); (try clear hb2); (try clear hk); (try clear hi)) | (go_at_call 32; (with_reducible refine (gf16_Tables_Exp.calls g147 1 t148 _ ?side1 A66.out).mono ?_); (case side1 => repeat (first | (with_reducible first | exact HI147.out | apply IsS69.alloc | apply IsS69.drewN | apply IsS69.drew) | exact HI147.out)); rintro e w' ⟨rfl, ⟨nd, rfl⟩⟩; (try first | exact ⟨rfl, _, World.drewN_drewN _ _ _⟩ | exact ⟨rfl, _, Eq.trans (World.drewN_drewN _ _ _) (congrArg (World.drewN _) (Nat.add_assoc _ _ _))⟩); obtain ⟨Ao69, co69, eo69⟩ := Kd.R_slice HO_5.out; subst eo69))
                          repeat (go_quiet (first | (go_at_call 31; (with_reducible refine (gf16_New.calls   w _ ?side1 A65.out).mono ?_); (case side1 => repeat (first | (with_reducible first | exact HB.out | apply below_alloc | apply pw_below_drewN | apply below_drew1) | exact HB.out)); rintro e w68 ⟨g147, rfl, hi, hb, hb2⟩; have n0_ := Aside0.mk (Kd.R_below (by (with_reducible repeat (first | apply Kd.R_alloc | apply Kd.R_drewN | apply Kd.R_drew)); exact HO_5.out) hb2); have n1_ := Aside0.mk (Kd.R_below (by (with_reducible repeat (first | apply Kd.R_alloc | apply Kd.R_drewN | apply Kd.R_drew)); exact HO_7.out) hb2); have n2_ := Aside0.mk (hb); have n3_ := Aside0.mk (hi); clear HO_5; clear HO_7; clear HB; have HO_5 := n0_; have HO_7 := n1_; have HB := n2_; have HI147 := n3_; clear n0_ n1_ n2_ n3_; (try clear hb); (try clear hb2); (try clear hk); (try clear hi)) | (go_at_call 32; (with_reducible refine (gf16_Tables_Exp.calls g147 1 t148 _ ?side1 A66.out).mono ?_); (case side1 => repeat (first | (with_reducible first | exact HI147.out | apply IsS69.alloc | apply IsS69.drewN | apply IsS69.drew) | exact HI147.out)); rintro e w' ⟨rfl, ⟨nd, rfl⟩⟩; (try first | exact ⟨rfl, _, World.drewN_drewN _ _ _⟩ | exact ⟨rfl, _, Eq.trans (World.drewN_drewN _ _ _) (congrArg (World.drewN _) (Nat.add_assoc _ _ _))⟩); obtain ⟨Ao69, co69, eo69⟩ := Kd.R_slice HO_5.out; subst eo69)); try go_wp2_with (first | (go_at_call 31; (with_reducible refine (gf16_New.calls   w _ ?side1 A65.out).mono ?_); (case side1 => repeat (first | (with_reducible first | exact HB.out | apply below_alloc | apply pw_below_drewN | apply below_drew1) | exact HB.out)); rintro e w68 ⟨g147, rfl, hi, hb, hb2⟩; have n0_ := Aside0.mk (Kd.R_below (by (with_reducible repeat (first | apply Kd.R_alloc | apply Kd.R_drewN | apply Kd.R_drew)); exact HO_5.out) hb2); have n1_ := Aside0.mk (Kd.R_below (by (with_reducible repeat (first | apply Kd.R_alloc | apply Kd.R_drewN | apply Kd.R_drew)); exact HO_7.out) hb2); have n2_ := Aside0.mk (hb); have n3_ := Aside0.mk (hi); clear HO_5; clear HO_7; clear HB; have HO_5 := n0_; have HO_7 := n1_; have HB := n2_; have HI147 := n3_; clear n0_ n1_ n2_ n3_; (try clear hb); (try clear hb2); (try clear hk); (try clear hi)) | (go_at_call 32; (with_reducible refine (gf16_Tables_Exp.calls g147 1 t148 _ ?side1 A66.out).mono ?_); (case side1 => repeat (first | (with_reducible first | exact HI147.out | apply IsS69.alloc | apply IsS69.drewN | apply IsS69.drew) | exact HI147.out)); rintro e w' ⟨rfl, ⟨nd, rfl⟩⟩; (try first | exact ⟨rfl, _, World.drewN_drewN _ _ _⟩ | exact ⟨rfl, _, Eq.trans (World.drewN_drewN _ _ _) (congrArg (World.drewN _) (Nat.add_assoc _ _ _))⟩); obtain ⟨Ao69, co69, eo69⟩ := Kd.R_slice HO_5.out; subst eo69)))
                          go_loopg [12, 127] kj52 (fun kq v12 v127 w' => ∃ (x12_4 : List Int) (x127_4 : Int), v127 = .int .i64 x127_4 ∧ Aside0 (culletlaw15_WalshDifferences.l1 kq l0 t134 t141 x12_4 (t134.length : Int) x127_4 = some r) ∧ Aside0 (kq ≤ kj52) ∧ Aside0 (Kd.R (Kd.int .u16) 33 w' w.heap.size (fun k_ => some k_ ≠ (v143 : Value).ownBlock ∧ some k_ ≠ (v12 : Value).ownBlock) (.slice Ao69 t134.length co69) t134) ∧ Aside0 (Kd.R (Kd.int .u16) 33 w' w.heap.size (fun k_ => some k_ ≠ ((.slice Ao69 t134.length co69) : Value).ownBlock ∧ some k_ ≠ (v12 : Value).ownBlock) v143 t141) ∧ Aside0 (Kd.R (Kd.int .u16) 33 w' w.heap.size (fun k_ => some k_ ≠ ((.slice Ao69 t134.length co69) : Value).ownBlock ∧ some k_ ≠ (v143 : Value).ownBlock) v12 x12_4) ∧ Aside0 (IsS69 w w' g147 ) ∧ Aside0 (Below w.heap.size w w'))
                          case atStart => exact ⟨(([] : List Int)), (0), (by first | rfl | (simp; done) | (simp [*]; done)), H', ⟨Nat.le_refl _⟩, ⟨by (with_reducible repeat (first | apply Kd.R_alloc | apply Kd.R_drewN | apply Kd.R_drew)); exact Kd.R_mono HO_5.out (fun _ hk => ⟨hk, (by simp [Value.ownBlock])⟩)⟩, ⟨by (with_reducible repeat (first | apply Kd.R_alloc | apply Kd.R_drewN | apply Kd.R_drew)); exact Kd.R_mono HO_7.out (fun _ hk => ⟨hk, (by simp [Value.ownBlock])⟩)⟩, ⟨by first | exact Kd.R_nil _ _ _ _ _ | exact Kd.N_nil _ _ _ _ _ | exact Kd.V_nil _ _ _ _ _ | exact Kd.Q_nil _ _ _ _ _ | exact Kd.S_nil _ _ _ _ _⟩, ⟨by repeat (first | (with_reducible first | exact HI147.out | apply IsS69.alloc | apply IsS69.drewN | apply IsS69.drew) | exact HI147.out)⟩, ⟨by repeat (first | (with_reducible first | exact HB.out | apply below_alloc | apply pw_below_drewN | apply below_drew1 | refine below_set ?_ (IsS69.ge HI147.out)) | exact HB.out)⟩⟩
                          case round =>
                            clear H'
                            try clear c1
                            try clear p1
                            try clear q1
                            try clear hx1
                            try clear c2
                            try clear p2
                            try clear c3
                            try clear c4
                            try clear c5
                            try clear c6
                            try clear p6
                            try clear c8
                            try clear c9
                            try clear c9b0
                            try clear c9b1
                            try clear p14
                            try clear q14
                            try clear hx14
                            try clear c18
                            try clear c18b0
                            try clear c19
                            try clear c20
                            try clear c20b0
                            try clear c20b1
                            try clear c21
                            try clear c21b0
                            try clear c21b1
                            try clear c21b2
                            try clear c25
                            try clear c25b0
                            try clear c26
                            try clear c26b0
                            try clear c27
                            try clear c27b0
                            try clear c28
                            try clear c28b0
                            try clear c29
                            try clear c29b0
                            try clear c29b1
                            try clear c30
                            try clear c30b0
                            try clear c30b1
                            try clear c30b2
                            try clear c35
                            try clear c35b0
                            try clear c35b1
                            try clear c37
                            try clear c37b0
                            try clear c38
                            try clear c38b0
                            try clear c38b1
                            try clear c39
                            try clear c39b0
                            try clear c39b1
                            try clear c39b2
                            try clear c43
                            try clear c43b0
                            try clear c45
                            try clear c45b0
                            try clear c46
                            try clear c46b0
                            try clear c47
                            try clear c47b0
                            try clear c48
                            try clear c48b0
                            try clear c48b1
                            try clear c49
                            try clear c49b0
                            try clear c49b1
                            try clear c49b2
                            try clear c54
                            try clear c54b0
                            try clear c54b1
                            try clear c56
                            try clear c56b0
                            try clear c56b1
                            try clear c58
                            try clear c58b0
                            try clear c58b1
                            try clear c59
                            try clear c59b0
                            try clear c60
                            try clear c60b0
                            try clear c64
                            try clear p64
                            try clear c67
                            try clear c67b0
                            try clear c67b1
                            try clear hx145_0
                            try clear hx146_0
                            try clear p1
                            try clear p14
                            try clear p145
                            try clear p146
                            try clear p2
                            try clear p6
                            try clear q1
                            try clear q14
                            try clear q145
                            try clear q146
                            obtain ⟨x12_4, x127_4, rfl, HA, HK4, HO_5, HO_7, HO_12, HI147, HB⟩ := hrel
                            cases gk with
                            | zero => exact absurd HA.out (by simp [culletlaw15_WalshDifferences.l1])
                            | succ k4 =>
                              have H := HA.out
                              clear HA
                              simp only [culletlaw15_WalshDifferences.l1] at H
                              by_cases c70 : x127_4 < (t134.length : Int)
                              · rw [if_pos c70] at H
                                have c70b0 : decide (x127_4 < (t134.length : Int)) = true := decide_eq_true c70
                                clear c70
                                replace H := Option.bind_eq_some_iff.mp H
                                obtain ⟨⟨t149, t150⟩, A710, H⟩ := H
                                replace H : (if t150 = 0 then (if x12_4.length < 70368744177664 then (culletlaw15_WalshDifferences.l1 k4 l0 t134 t141 (x12_4 ++ [t149]) (t134.length : Int) (wrap64 (x127_4 + 1))) else (none)) else (some false)) = some r := H
                                have A71 := Aside0.mk A710
                                clear A710
                                by_cases c72 : t150 = 0
                                · rw [if_pos c72] at H
                                  have c72b0 : (t150 == 0) = true := beq_iff_eq.mpr c72
                                  have c72b1 : (t150 != 0) = false := bne_eq_false_iff_eq.mpr c72
                                  clear c72
                                  by_cases c73 : x12_4.length < 70368744177664
                                  · rw [if_pos c73] at H
                                    have LMc73 := Aside0.mk c73
                                    clear c73
                                    obtain ⟨y151, hy151⟩ : ∃ y_ : List Int, y_ = (x12_4 ++ [t149]) := ⟨_, rfl⟩
                                    replace H : (culletlaw15_WalshDifferences.l1 k4 l0 t134 t141 y151 (t134.length : Int) (wrap64 (x127_4 + 1))) = some r := by first | (rw [hy151]; with_reducible exact H) | (have H2_ := (Option.bind_some _ _).symm.trans H; rw [hy151]; with_reducible exact H2_) | (have H2_ := (Option.bind_some _ _).symm.trans H; with_reducible exact H2_) | with_reducible exact H | (rw [hy151]; exact H) | exact H
                                    have Ny151 := Aside0.mk hy151
                                    clear hy151
                                    have H' := Aside0.mk H
                                    clear H
                                    go_wp2_with (first | (go_at_call 33; (with_reducible refine (gf16_Element.calls x127_4 t149 t150 _ A71.out).mono ?_); rintro e w74 ⟨rfl, hb⟩; have n0_ := Aside0.mk (Kd.R_below (by (with_reducible repeat (first | apply Kd.R_alloc | apply Kd.R_drewN | apply Kd.R_drew)); exact HO_5.out) hb); have n1_ := Aside0.mk (Kd.R_below (by (with_reducible repeat (first | apply Kd.R_alloc | apply Kd.R_drewN | apply Kd.R_drew)); exact HO_7.out) hb); have n2_ := Aside0.mk (Kd.R_below (by (with_reducible repeat (first | apply Kd.R_alloc | apply Kd.R_drewN | apply Kd.R_drew)); exact HO_12.out) hb); have n3_ := Aside0.mk (IsS69.below (by repeat (first | (with_reducible first | exact HI147.out | apply IsS69.alloc | apply IsS69.drewN | apply IsS69.drew) | exact HI147.out)) hb); have n4_ := Aside0.mk (below_step (by repeat (first | (with_reducible first | exact HB.out | apply below_alloc | apply pw_below_drewN | apply below_drew1 | refine below_set ?_ (IsS69.ge HI147.out)) | exact HB.out)) hb); clear HO_5; clear HO_7; clear HO_12; clear HI147; clear HB; have HO_5 := n0_; have HO_7 := n1_; have HO_12 := n2_; have HI147 := n3_; have HB := n4_; clear n0_ n1_ n2_ n3_ n4_; (try clear hb); (try clear hb2); (try clear hk); (try clear hi)) | ((with_reducible refine gate_builtin (b := .append) (xs := #[.tmp 137, .tmp 139]) rfl ?_); (try (refine gate_guard (by rfl) ?_; dsimp only)); at_builtin; refine Kd.R_append (Kd.int .u16) (w0 := w) w.heap.size rfl (.tmp 137) (.tmp 139) 22 33 (.int .u16 0) 2 rfl Try.underlying22 info33 rfl (by decide) (by omega) u12 x12_4 t149 [.int .u16 t149] (fun k_ => some k_ ≠ (.slice Ao69 t134.length co69 : Value).ownBlock ∧ some k_ ≠ (v143 : Value).ownBlock) (fun _ => False) rfl rfl ?aP (fun _ hk => hk.elim) ?aF ?aO ?aB ?aS ?aL ?_; (case aP => exact rfl); (case aB => exact (by repeat (first | (with_reducible first | exact HB.out | apply below_alloc | apply pw_below_drewN | apply below_drew1 | refine below_set ?_ (IsS69.ge HI147.out)) | exact HB.out))); (case aF => exact (fun k_ hk => ⟨Kd.fresh' (Kd.R_lt (by (with_reducible repeat (first | apply Kd.R_alloc | apply Kd.R_drewN | apply Kd.R_drew)); exact HO_5.out)) k_ hk, Kd.fresh' (Kd.R_lt (by (with_reducible repeat (first | apply Kd.R_alloc | apply Kd.R_drewN | apply Kd.R_drew)); exact HO_7.out)) k_ hk⟩)); (case aO => exact (by (with_reducible repeat (first | apply Kd.R_alloc | apply Kd.R_drewN | apply Kd.R_drew)); exact HO_12.out)); (case aS => exact (below_size (by repeat (first | (with_reducible first | exact HB.out | apply below_alloc | apply pw_below_drewN | apply below_drew1 | refine below_set ?_ (IsS69.ge HI147.out)) | exact HB.out)))); (case aL => have := LMc73.out; omega); intro v152 w75 ho hb hg hat; rw [← Ny151.out] at ho; have n0_ := Aside0.mk (Kd.R_after (ok := (fun k_ => some k_ ≠ (v143 : Value).ownBlock)) (by (with_reducible repeat (first | apply Kd.R_alloc | apply Kd.R_drewN | apply Kd.R_drew)); exact HO_5.out) hg hat); have n1_ := Aside0.mk (Kd.R_after (ok := (fun k_ => some k_ ≠ (.slice Ao69 t134.length co69 : Value).ownBlock)) (by (with_reducible repeat (first | apply Kd.R_alloc | apply Kd.R_drewN | apply Kd.R_drew)); exact HO_7.out) hg hat); have n2_ := Aside0.mk (IsS69.grown (by repeat (first | (with_reducible first | exact HI147.out | apply IsS69.alloc | apply IsS69.drewN | apply IsS69.drew) | exact HI147.out)) hg (IsS69.own_ne HI147.out HO_12.out (by decide))); have n3_ := Aside0.mk (hb); have n4_ := Aside0.mk (ho); clear HO_5; clear HO_7; clear HI147; clear HB; clear HO_12; have HO_5 := n0_; have HO_7 := n1_; have HI147 := n2_; have HB := n3_; have HO153 := n4_; clear n0_ n1_ n2_ n3_ n4_; clear ho hb hg hat))
                                    repeat (go_quiet (first | (go_at_call 33; (with_reducible refine (gf16_Element.calls x127_4 t149 t150 _ A71.out).mono ?_); rintro e w74 ⟨rfl, hb⟩; have n0_ := Aside0.mk (Kd.R_below (by (with_reducible repeat (first | apply Kd.R_alloc | apply Kd.R_drewN | apply Kd.R_drew)); exact HO_5.out) hb); have n1_ := Aside0.mk (Kd.R_below (by (with_reducible repeat (first | apply Kd.R_alloc | apply Kd.R_drewN | apply Kd.R_drew)); exact HO_7.out) hb); have n2_ := Aside0.mk (Kd.R_below (by (with_reducible repeat (first | apply Kd.R_alloc | apply Kd.R_drewN | apply Kd.R_drew)); exact HO_12.out) hb); have n3_ := Aside0.mk (IsS69.below (by repeat (first | (with_reducible first | exact HI147.out | apply IsS69.alloc | apply IsS69.drewN | apply IsS69.drew) | exact HI147.out)) hb); have n4_ := Aside0.mk (below_step (by repeat (first | (with_reducible first | exact HB.out | apply below_alloc | apply pw_below_drewN | apply below_drew1 | refine below_set ?_ (IsS69.ge HI147.out)) | exact HB.out)) hb); clear HO_5; clear HO_7; clear HO_12; clear HI147; clear HB; have HO_5 := n0_; have HO_7 := n1_; have HO_12 := n2_; have HI147 := n3_; have HB := n4_; clear n0_ n1_ n2_ n3_ n4_; (try clear hb); (try clear hb2); (try clear hk); (try clear hi)) | ((with_reducible refine gate_builtin (b := .append) (xs := #[.tmp 137, .tmp 139]) rfl ?_); (try (refine gate_guard (by rfl) ?_; dsimp only)); at_builtin; refine Kd.R_append (Kd.int .u16) (w0 := w) w.heap.size rfl (.tmp 137) (.tmp 139) 22 33 (.int .u16 0) 2 rfl Try.underlying22 info33 rfl (by decide) (by omega) u12 x12_4 t149 [.int .u16 t149] (fun k_ => some k_ ≠ (.slice Ao69 t134.length co69 : Value).ownBlock ∧ some k_ ≠ (v143 : Value).ownBlock) (fun _ => False) rfl rfl ?aP (fun _ hk => hk.elim) ?aF ?aO ?aB ?aS ?aL ?_; (case aP => exact rfl); (case aB => exact (by repeat (first | (with_reducible first | exact HB.out | apply below_alloc | apply pw_below_drewN | apply below_drew1 | refine below_set ?_ (IsS69.ge HI147.out)) | exact HB.out))); (case aF => exact (fun k_ hk => ⟨Kd.fresh' (Kd.R_lt (by (with_reducible repeat (first | apply Kd.R_alloc | apply Kd.R_drewN | apply Kd.R_drew)); exact HO_5.out)) k_ hk, Kd.fresh' (Kd.R_lt (by (with_reducible repeat (first | apply Kd.R_alloc | apply Kd.R_drewN | apply Kd.R_drew)); exact HO_7.out)) k_ hk⟩)); (case aO => exact (by (with_reducible repeat (first | apply Kd.R_alloc | apply Kd.R_drewN | apply Kd.R_drew)); exact HO_12.out)); (case aS => exact (below_size (by repeat (first | (with_reducible first | exact HB.out | apply below_alloc | apply pw_below_drewN | apply below_drew1 | refine below_set ?_ (IsS69.ge HI147.out)) | exact HB.out)))); (case aL => have := LMc73.out; omega); intro v152 w75 ho hb hg hat; rw [← Ny151.out] at ho; have n0_ := Aside0.mk (Kd.R_after (ok := (fun k_ => some k_ ≠ (v143 : Value).ownBlock)) (by (with_reducible repeat (first | apply Kd.R_alloc | apply Kd.R_drewN | apply Kd.R_drew)); exact HO_5.out) hg hat); have n1_ := Aside0.mk (Kd.R_after (ok := (fun k_ => some k_ ≠ (.slice Ao69 t134.length co69 : Value).ownBlock)) (by (with_reducible repeat (first | apply Kd.R_alloc | apply Kd.R_drewN | apply Kd.R_drew)); exact HO_7.out) hg hat); have n2_ := Aside0.mk (IsS69.grown (by repeat (first | (with_reducible first | exact HI147.out | apply IsS69.alloc | apply IsS69.drewN | apply IsS69.drew) | exact HI147.out)) hg (IsS69.own_ne HI147.out HO_12.out (by decide))); have n3_ := Aside0.mk (hb); have n4_ := Aside0.mk (ho); clear HO_5; clear HO_7; clear HI147; clear HB; clear HO_12; have HO_5 := n0_; have HO_7 := n1_; have HI147 := n2_; have HB := n3_; have HO153 := n4_; clear n0_ n1_ n2_ n3_ n4_; clear ho hb hg hat)); try go_wp2_with (first | (go_at_call 33; (with_reducible refine (gf16_Element.calls x127_4 t149 t150 _ A71.out).mono ?_); rintro e w74 ⟨rfl, hb⟩; have n0_ := Aside0.mk (Kd.R_below (by (with_reducible repeat (first | apply Kd.R_alloc | apply Kd.R_drewN | apply Kd.R_drew)); exact HO_5.out) hb); have n1_ := Aside0.mk (Kd.R_below (by (with_reducible repeat (first | apply Kd.R_alloc | apply Kd.R_drewN | apply Kd.R_drew)); exact HO_7.out) hb); have n2_ := Aside0.mk (Kd.R_below (by (with_reducible repeat (first | apply Kd.R_alloc | apply Kd.R_drewN | apply Kd.R_drew)); exact HO_12.out) hb); have n3_ := Aside0.mk (IsS69.below (by repeat (first | (with_reducible first | exact HI147.out | apply IsS69.alloc | apply IsS69.drewN | apply IsS69.drew) | exact HI147.out)) hb); have n4_ := Aside0.mk (below_step (by repeat (first | (with_reducible first | exact HB.out | apply below_alloc | apply pw_below_drewN | apply below_drew1 | refine below_set ?_ (IsS69.ge HI147.out)) | exact HB.out)) hb); clear HO_5; clear HO_7; clear HO_12; clear HI147; clear HB; have HO_5 := n0_; have HO_7 := n1_; have HO_12 := n2_; have HI147 := n3_; have HB := n4_; clear n0_ n1_ n2_ n3_ n4_; (try clear hb); (try clear hb2); (try clear hk); (try clear hi)) | ((with_reducible refine gate_builtin (b := .append) (xs := #[.tmp 137, .tmp 139]) rfl ?_); (try (refine gate_guard (by rfl) ?_; dsimp only)); at_builtin; refine Kd.R_append (Kd.int .u16) (w0 := w) w.heap.size rfl (.tmp 137) (.tmp 139) 22 33 (.int .u16 0) 2 rfl Try.underlying22 info33 rfl (by decide) (by omega) u12 x12_4 t149 [.int .u16 t149] (fun k_ => some k_ ≠ (.slice Ao69 t134.length co69 : Value).ownBlock ∧ some k_ ≠ (v143 : Value).ownBlock) (fun _ => False) rfl rfl ?aP (fun _ hk => hk.elim) ?aF ?aO ?aB ?aS ?aL ?_; (case aP => exact rfl); (case aB => exact (by repeat (first | (with_reducible first | exact HB.out | apply below_alloc | apply pw_below_drewN | apply below_drew1 | refine below_set ?_ (IsS69.ge HI147.out)) | exact HB.out))); (case aF => exact (fun k_ hk => ⟨Kd.fresh' (Kd.R_lt (by (with_reducible repeat (first | apply Kd.R_alloc | apply Kd.R_drewN | apply Kd.R_drew)); exact HO_5.out)) k_ hk, Kd.fresh' (Kd.R_lt (by (with_reducible repeat (first | apply Kd.R_alloc | apply Kd.R_drewN | apply Kd.R_drew)); exact HO_7.out)) k_ hk⟩)); (case aO => exact (by (with_reducible repeat (first | apply Kd.R_alloc | apply Kd.R_drewN | apply Kd.R_drew)); exact HO_12.out)); (case aS => exact (below_size (by repeat (first | (with_reducible first | exact HB.out | apply below_alloc | apply pw_below_drewN | apply below_drew1 | refine below_set ?_ (IsS69.ge HI147.out)) | exact HB.out)))); (case aL => have := LMc73.out; omega); intro v152 w75 ho hb hg hat; rw [← Ny151.out] at ho; have n0_ := Aside0.mk (Kd.R_after (ok := (fun k_ => some k_ ≠ (v143 : Value).ownBlock)) (by (with_reducible repeat (first | apply Kd.R_alloc | apply Kd.R_drewN | apply Kd.R_drew)); exact HO_5.out) hg hat); have n1_ := Aside0.mk (Kd.R_after (ok := (fun k_ => some k_ ≠ (.slice Ao69 t134.length co69 : Value).ownBlock)) (by (with_reducible repeat (first | apply Kd.R_alloc | apply Kd.R_drewN | apply Kd.R_drew)); exact HO_7.out) hg hat); have n2_ := Aside0.mk (IsS69.grown (by repeat (first | (with_reducible first | exact HI147.out | apply IsS69.alloc | apply IsS69.drewN | apply IsS69.drew) | exact HI147.out)) hg (IsS69.own_ne HI147.out HO_12.out (by decide))); have n3_ := Aside0.mk (hb); have n4_ := Aside0.mk (ho); clear HO_5; clear HO_7; clear HI147; clear HB; clear HO_12; have HO_5 := n0_; have HO_7 := n1_; have HI147 := n2_; have HB := n3_; have HO153 := n4_; clear n0_ n1_ n2_ n3_ n4_; clear ho hb hg hat)))
                                    go_roundg k4
                                    case measure => have := HJ9.out; have := HK2.out; have := HJ52.out; have := HK4.out; omega
                                    case rel => exact ⟨(y151), (wrap64 (x127_4 + 1)), (by first | rfl | (simp; done) | (simp [*]; done)), H', ⟨by have := HJ9.out; have := HK2.out; have := HJ52.out; have := HK4.out; omega⟩, ⟨by (with_reducible repeat (first | apply Kd.R_alloc | apply Kd.R_drewN | apply Kd.R_drew)); exact HO_5.out⟩, ⟨by (with_reducible repeat (first | apply Kd.R_alloc | apply Kd.R_drewN | apply Kd.R_drew)); exact HO_7.out⟩, ⟨by (with_reducible repeat (first | apply Kd.R_alloc | apply Kd.R_drewN | apply Kd.R_drew)); exact HO153.out⟩, ⟨by repeat (first | (with_reducible first | exact HI147.out | apply IsS69.alloc | apply IsS69.drewN | apply IsS69.drew) | exact HI147.out)⟩, ⟨by repeat (first | (with_reducible first | exact HB.out | apply below_alloc | apply pw_below_drewN | apply below_drew1 | refine below_set ?_ (IsS69.ge HI147.out)) | exact HB.out)⟩⟩
                                  · rw [if_neg c73] at H
                                    exact absurd H (by simp)
                                · rw [if_neg c72] at H
                                  have c72b0 : (t150 == 0) = false := beq_eq_false_iff_ne.mpr c72
                                  have c72b1 : (t150 != 0) = true := bne_iff_ne.mpr c72
                                  obtain rfl := Option.some.inj H
                                  go_wp2_with (first | (go_at_call 33; (with_reducible refine (gf16_Element.calls x127_4 t149 t150 _ A71.out).mono ?_); rintro e w76 ⟨rfl, hb⟩; have n0_ := Aside0.mk (Kd.R_below (by (with_reducible repeat (first | apply Kd.R_alloc | apply Kd.R_drewN | apply Kd.R_drew)); exact HO_5.out) hb); have n1_ := Aside0.mk (Kd.R_below (by (with_reducible repeat (first | apply Kd.R_alloc | apply Kd.R_drewN | apply Kd.R_drew)); exact HO_7.out) hb); have n2_ := Aside0.mk (Kd.R_below (by (with_reducible repeat (first | apply Kd.R_alloc | apply Kd.R_drewN | apply Kd.R_drew)); exact HO_12.out) hb); have n3_ := Aside0.mk (IsS69.below (by repeat (first | (with_reducible first | exact HI147.out | apply IsS69.alloc | apply IsS69.drewN | apply IsS69.drew) | exact HI147.out)) hb); have n4_ := Aside0.mk (below_step (by repeat (first | (with_reducible first | exact HB.out | apply below_alloc | apply pw_below_drewN | apply below_drew1 | refine below_set ?_ (IsS69.ge HI147.out)) | exact HB.out)) hb); clear HO_5; clear HO_7; clear HO_12; clear HI147; clear HB; have HO_5 := n0_; have HO_7 := n1_; have HO_12 := n2_; have HI147 := n3_; have HB := n4_; clear n0_ n1_ n2_ n3_ n4_; (try clear hb); (try clear hb2); (try clear hk); (try clear hi)))
                                  repeat (go_quiet (first | (go_at_call 33; (with_reducible refine (gf16_Element.calls x127_4 t149 t150 _ A71.out).mono ?_); rintro e w76 ⟨rfl, hb⟩; have n0_ := Aside0.mk (Kd.R_below (by (with_reducible repeat (first | apply Kd.R_alloc | apply Kd.R_drewN | apply Kd.R_drew)); exact HO_5.out) hb); have n1_ := Aside0.mk (Kd.R_below (by (with_reducible repeat (first | apply Kd.R_alloc | apply Kd.R_drewN | apply Kd.R_drew)); exact HO_7.out) hb); have n2_ := Aside0.mk (Kd.R_below (by (with_reducible repeat (first | apply Kd.R_alloc | apply Kd.R_drewN | apply Kd.R_drew)); exact HO_12.out) hb); have n3_ := Aside0.mk (IsS69.below (by repeat (first | (with_reducible first | exact HI147.out | apply IsS69.alloc | apply IsS69.drewN | apply IsS69.drew) | exact HI147.out)) hb); have n4_ := Aside0.mk (below_step (by repeat (first | (with_reducible first | exact HB.out | apply below_alloc | apply pw_below_drewN | apply below_drew1 | refine below_set ?_ (IsS69.ge HI147.out)) | exact HB.out)) hb); clear HO_5; clear HO_7; clear HO_12; clear HI147; clear HB; have HO_5 := n0_; have HO_7 := n1_; have HO_12 := n2_; have HI147 := n3_; have HB := n4_; clear n0_ n1_ n2_ n3_ n4_; (try clear hb); (try clear hb2); (try clear hk); (try clear hi))); try go_wp2_with (first | (go_at_call 33; (with_reducible refine (gf16_Element.calls x127_4 t149 t150 _ A71.out).mono ?_); rintro e w76 ⟨rfl, hb⟩; have n0_ := Aside0.mk (Kd.R_below (by (with_reducible repeat (first | apply Kd.R_alloc | apply Kd.R_drewN | apply Kd.R_drew)); exact HO_5.out) hb); have n1_ := Aside0.mk (Kd.R_below (by (with_reducible repeat (first | apply Kd.R_alloc | apply Kd.R_drewN | apply Kd.R_drew)); exact HO_7.out) hb); have n2_ := Aside0.mk (Kd.R_below (by (with_reducible repeat (first | apply Kd.R_alloc | apply Kd.R_drewN | apply Kd.R_drew)); exact HO_12.out) hb); have n3_ := Aside0.mk (IsS69.below (by repeat (first | (with_reducible first | exact HI147.out | apply IsS69.alloc | apply IsS69.drewN | apply IsS69.drew) | exact HI147.out)) hb); have n4_ := Aside0.mk (below_step (by repeat (first | (with_reducible first | exact HB.out | apply below_alloc | apply pw_below_drewN | apply below_drew1 | refine below_set ?_ (IsS69.ge HI147.out)) | exact HB.out)) hb); clear HO_5; clear HO_7; clear HO_12; clear HI147; clear HB; have HO_5 := n0_; have HO_7 := n1_; have HO_12 := n2_; have HI147 := n3_; have HB := n4_; clear n0_ n1_ n2_ n3_ n4_; (try clear hb); (try clear hb2); (try clear hk); (try clear hi))))
                                  go_ret
                                  exact ⟨by first | rfl | (simp [errW_none, errW_some] <;> rfl) | (simp [*, errW_none, errW_some] <;> rfl), by repeat (first | (with_reducible first | exact HB.out | apply below_alloc | apply pw_below_drewN | apply below_drew1 | refine below_set ?_ (IsS69.ge HI147.out)) | exact HB.out)⟩
                              · rw [if_neg c70] at H
                                have c70b0 : decide (x127_4 < (t134.length : Int)) = false := decide_eq_false c70
                                clear c70
                                have H' := Aside0.mk H
                                clear H
                                go_wp2
                                repeat (go_quiet (fail); try go_wp2)
                                go_loopg [144] k4 (fun kq v144 w' => ∃ (x144_5 : Int), v144 = .int .i64 x144_5 ∧ Aside0 (culletlaw15_WalshDifferences.l2 kq l0 t134 t141 x12_4 (t134.length : Int) x144_5 = some r) ∧ Aside0 (kq ≤ k4) ∧ Aside0 (Kd.R (Kd.int .u16) 33 w' w.heap.size (fun k_ => some k_ ≠ (v143 : Value).ownBlock ∧ some k_ ≠ (u12 : Value).ownBlock) (.slice Ao69 t134.length co69) t134) ∧ Aside0 (Kd.R (Kd.int .u16) 33 w' w.heap.size (fun k_ => some k_ ≠ ((.slice Ao69 t134.length co69) : Value).ownBlock ∧ some k_ ≠ (u12 : Value).ownBlock) v143 t141) ∧ Aside0 (Kd.R (Kd.int .u16) 33 w' w.heap.size (fun k_ => some k_ ≠ ((.slice Ao69 t134.length co69) : Value).ownBlock ∧ some k_ ≠ (v143 : Value).ownBlock) u12 x12_4) ∧ Aside0 (IsS69 w w' g147 ) ∧ Aside0 (Below w.heap.size w w'))
                                case atStart => exact ⟨(0), (by first | rfl | (simp; done) | (simp [*]; done)), H', ⟨Nat.le_refl _⟩, ⟨by (with_reducible repeat (first | apply Kd.R_alloc | apply Kd.R_drewN | apply Kd.R_drew)); exact HO_5.out⟩, ⟨by (with_reducible repeat (first | apply Kd.R_alloc | apply Kd.R_drewN | apply Kd.R_drew)); exact HO_7.out⟩, ⟨by (with_reducible repeat (first | apply Kd.R_alloc | apply Kd.R_drewN | apply Kd.R_drew)); exact HO_12.out⟩, ⟨by repeat (first | (with_reducible first | exact HI147.out | apply IsS69.alloc | apply IsS69.drewN | apply IsS69.drew) | exact HI147.out)⟩, ⟨by repeat (first | (with_reducible first | exact HB.out | apply below_alloc | apply pw_below_drewN | apply below_drew1 | refine below_set ?_ (IsS69.ge HI147.out)) | exact HB.out)⟩⟩
                                case round =>
                                  clear H'
                                  try clear c1
                                  try clear p1
                                  try clear q1
                                  try clear hx1
                                  try clear c2
                                  try clear p2
                                  try clear c3
                                  try clear c4
                                  try clear c5
                                  try clear c6
                                  try clear p6
                                  try clear c7
                                  try clear c8
                                  try clear c9
                                  try clear c9b0
                                  try clear c9b1
                                  try clear p14
                                  try clear q14
                                  try clear hx14
                                  try clear c18
                                  try clear c18b0
                                  try clear c19
                                  try clear c20
                                  try clear c20b0
                                  try clear c20b1
                                  try clear c21
                                  try clear c21b0
                                  try clear c21b1
                                  try clear c21b2
                                  try clear c25
                                  try clear c25b0
                                  try clear c26
                                  try clear c26b0
                                  try clear c27
                                  try clear c27b0
                                  try clear c28
                                  try clear c28b0
                                  try clear c29
                                  try clear c29b0
                                  try clear c29b1
                                  try clear c30
                                  try clear c30b0
                                  try clear c30b1
                                  try clear c30b2
                                  try clear c35
                                  try clear c35b0
                                  try clear c35b1
                                  try clear c37
                                  try clear c37b0
                                  try clear c38
                                  try clear c38b0
                                  try clear c38b1
                                  try clear c39
                                  try clear c39b0
                                  try clear c39b1
                                  try clear c39b2
                                  try clear c43
                                  try clear c43b0
                                  try clear c45
                                  try clear c45b0
                                  try clear c46
                                  try clear c46b0
                                  try clear c47
                                  try clear c47b0
                                  try clear c48
                                  try clear c48b0
                                  try clear c48b1
                                  try clear c49
                                  try clear c49b0
                                  try clear c49b1
                                  try clear c49b2
                                  try clear c54
                                  try clear c54b0
                                  try clear c54b1
                                  try clear c56
                                  try clear c56b0
                                  try clear c56b1
                                  try clear c58
                                  try clear c58b0
                                  try clear c58b1
                                  try clear c59
                                  try clear c59b0
                                  try clear c60
                                  try clear c60b0
                                  try clear c64
                                  try clear p64
                                  try clear c67
                                  try clear c67b0
                                  try clear c67b1
                                  try clear c70
                                  try clear c70b0
                                  try clear c72
                                  try clear c72b0
                                  try clear c72b1
                                  try clear c73
                                  try clear hx145_0
                                  try clear hx146_0
                                  try clear p1
                                  try clear p14
                                  try clear p145
                                  try clear p146
                                  try clear p2
                                  try clear p6
                                  try clear p64
                                  try clear q1
                                  try clear q14
                                  try clear q145
                                  try clear q146
                                  obtain ⟨x144_5, rfl, HA, HK5, HO_5, HO_7, HO_12, HI147, HB⟩ := hrel
                                  cases gk with
                                  | zero => exact absurd HA.out (by simp [culletlaw15_WalshDifferences.l2])
                                  | succ k5 =>
                                    have H := HA.out
                                    clear HA
                                    simp only [culletlaw15_WalshDifferences.l2] at H
                                    by_cases c77 : x144_5 < (t134.length : Int)
                                    · rw [if_pos c77] at H
                                      have c77b0 : decide (x144_5 < (t134.length : Int)) = true := decide_eq_true c77
                                      clear c77
                                      have H' := Aside0.mk H
                                      clear H
                                      go_wp2
                                      repeat (go_quiet (fail); try go_wp2)
                                      go_loopg [17, 149] k5 (fun kq v17 v149 w' => ∃ (x17_6 : Int) (x149_6 : Int), v17 = .int .u16 x17_6 ∧ v149 = .int .i64 x149_6 ∧ Aside0 (culletlaw15_WalshDifferences.l3 kq l0 t134 t141 x12_4 x144_5 x17_6 (t134.length : Int) x144_5 l0 (l0.length : Int) x149_6 = some r) ∧ Aside0 (kq ≤ k5) ∧ Aside0 (Kd.R (Kd.int .u16) 33 w' w.heap.size (fun k_ => some k_ ≠ (v143 : Value).ownBlock ∧ some k_ ≠ (u12 : Value).ownBlock) (.slice Ao69 t134.length co69) t134) ∧ Aside0 (Kd.R (Kd.int .u16) 33 w' w.heap.size (fun k_ => some k_ ≠ ((.slice Ao69 t134.length co69) : Value).ownBlock ∧ some k_ ≠ (u12 : Value).ownBlock) v143 t141) ∧ Aside0 (Kd.R (Kd.int .u16) 33 w' w.heap.size (fun k_ => some k_ ≠ ((.slice Ao69 t134.length co69) : Value).ownBlock ∧ some k_ ≠ (v143 : Value).ownBlock) u12 x12_4) ∧ Aside0 (IsS69 w w' g147 ) ∧ Aside0 (Below w.heap.size w w'))
                                      case atStart => exact ⟨(1), (0), (by first | rfl | (simp; done) | (simp [*]; done)), (by first | rfl | (simp; done) | (simp [*]; done)), H', ⟨Nat.le_refl _⟩, ⟨by (with_reducible repeat (first | apply Kd.R_alloc | apply Kd.R_drewN | apply Kd.R_drew)); exact HO_5.out⟩, ⟨by (with_reducible repeat (first | apply Kd.R_alloc | apply Kd.R_drewN | apply Kd.R_drew)); exact HO_7.out⟩, ⟨by (with_reducible repeat (first | apply Kd.R_alloc | apply Kd.R_drewN | apply Kd.R_drew)); exact HO_12.out⟩, ⟨by repeat (first | (with_reducible first | exact HI147.out | apply IsS69.alloc | apply IsS69.drewN | apply IsS69.drew) | exact HI147.out)⟩, ⟨by repeat (first | (with_reducible first | exact HB.out | apply below_alloc | apply pw_below_drewN | apply below_drew1 | refine below_set ?_ (IsS69.ge HI147.out)) | exact HB.out)⟩⟩
                                      case round =>
                                        clear H'
                                        try clear c1
                                        try clear p1
                                        try clear q1
                                        try clear hx1
                                        try clear c2
                                        try clear p2
                                        try clear c3
                                        try clear c4
                                        try clear c5
                                        try clear c6
                                        try clear p6
                                        try clear c7
                                        try clear c8
                                        try clear c9
                                        try clear c9b0
                                        try clear c9b1
                                        try clear p14
                                        try clear q14
                                        try clear hx14
                                        try clear c18
                                        try clear c18b0
                                        try clear c19
                                        try clear c20
                                        try clear c20b0
                                        try clear c20b1
                                        try clear c21
                                        try clear c21b0
                                        try clear c21b1
                                        try clear c21b2
                                        try clear c25
                                        try clear c25b0
                                        try clear c26
                                        try clear c26b0
                                        try clear c27
                                        try clear c27b0
                                        try clear c28
                                        try clear c28b0
                                        try clear c29
                                        try clear c29b0
                                        try clear c29b1
                                        try clear c30
                                        try clear c30b0
                                        try clear c30b1
                                        try clear c30b2
                                        try clear c35
                                        try clear c35b0
                                        try clear c35b1
                                        try clear c37
                                        try clear c37b0
                                        try clear c38
                                        try clear c38b0
                                        try clear c38b1
                                        try clear c39
                                        try clear c39b0
                                        try clear c39b1
                                        try clear c39b2
                                        try clear c43
                                        try clear c43b0
                                        try clear c45
                                        try clear c45b0
                                        try clear c46
                                        try clear c46b0
                                        try clear c47
                                        try clear c47b0
                                        try clear c48
                                        try clear c48b0
                                        try clear c48b1
                                        try clear c49
                                        try clear c49b0
                                        try clear c49b1
                                        try clear c49b2
                                        try clear c54
                                        try clear c54b0
                                        try clear c54b1
                                        try clear c56
                                        try clear c56b0
                                        try clear c56b1
                                        try clear c58
                                        try clear c58b0
                                        try clear c58b1
                                        try clear c59
                                        try clear c59b0
                                        try clear c60
                                        try clear c60b0
                                        try clear c64
                                        try clear p64
                                        try clear c67
                                        try clear c67b0
                                        try clear c67b1
                                        try clear c70
                                        try clear c70b0
                                        try clear c72
                                        try clear c72b0
                                        try clear c72b1
                                        try clear c73
                                        try clear c77
                                        try clear c77b0
                                        try clear hx145_0
                                        try clear hx146_0
                                        try clear p1
                                        try clear p14
                                        try clear p145
                                        try clear p146
                                        try clear p2
                                        try clear p6
                                        try clear p64
                                        try clear q1
                                        try clear q14
                                        try clear q145
                                        try clear q146
                                        obtain ⟨x17_6, x149_6, rfl, rfl, HA, HK6, HO_5, HO_7, HO_12, HI147, HB⟩ := hrel
                                        cases gk with
                                        | zero => exact absurd HA.out (by simp [culletlaw15_WalshDifferences.l3])
                                        | succ k6 =>
                                          have H := HA.out
                                          clear HA
                                          simp only [culletlaw15_WalshDifferences.l3] at H
                                          by_cases c78 : x149_6 < (l0.length : Int)
                                          · rw [if_pos c78] at H
                                            have c78b0 : decide (x149_6 < (l0.length : Int)) = true := decide_eq_true c78
                                            clear c78
                                            by_cases c79 : 0 ≤ x149_6
                                            · rw [if_pos c79] at H
                                              have c79b0 : decide (0 ≤ x149_6) = true := decide_eq_true c79
                                              clear c79
                                              by_cases c80 : x149_6 < (l0.length : Int)
                                              · rw [if_pos c80] at H
                                                have c80b0 : decide (x149_6 < (l0.length : Int)) = true := decide_eq_true c80
                                                clear c80
                                                by_cases c81 : (rd l0 x149_6) = x144_5
                                                · rw [if_pos c81] at H
                                                  have c81b0 : ((rd l0 x149_6) == x144_5) = true := beq_iff_eq.mpr c81
                                                  have c81b1 : ((rd l0 x149_6) != x144_5) = false := bne_eq_false_iff_eq.mpr c81
                                                  clear c81
                                                  have H' := Aside0.mk H
                                                  clear H
                                                  have p154 : 0 ≤ (x149_6 : Int) := of_decide_eq_true (by first | (with_reducible assumption) | assumption)
                                                  have q154 : x149_6 < (l0.length : Int) := of_decide_eq_true (by first | (with_reducible assumption) | assumption)
                                                  obtain ⟨ad154, e154, hx154_0⟩ := Kd.at_int HR0.out x149_6 p154 q154
                                                  cases e154
                                                  replace hx154_0 := (HB.out.cell (World.block_lt_of_cell? w _ hx154_0)).trans hx154_0
                                                  replace p154 := eq_true p154
                                                  replace q154 := eq_true q154
                                                  go_wp2
                                                  repeat (go_quiet (fail); try go_wp2)
                                                  go_roundg k6
                                                  case measure => have := HJ9.out; have := HK2.out; have := HJ52.out; have := HK4.out; have := HK5.out; have := HK6.out; omega
                                                  case rel => exact ⟨(x17_6), (wrap64 (x149_6 + 1)), (by first | rfl | (simp; done) | (simp [*]; done)), (by first | rfl | (simp; done) | (simp [*]; done)), H', ⟨by have := HJ9.out; have := HK2.out; have := HJ52.out; have := HK4.out; have := HK5.out; have := HK6.out; omega⟩, ⟨by (with_reducible repeat (first | apply Kd.R_alloc | apply Kd.R_drewN | apply Kd.R_drew)); exact HO_5.out⟩, ⟨by (with_reducible repeat (first | apply Kd.R_alloc | apply Kd.R_drewN | apply Kd.R_drew)); exact HO_7.out⟩, ⟨by (with_reducible repeat (first | apply Kd.R_alloc | apply Kd.R_drewN | apply Kd.R_drew)); exact HO_12.out⟩, ⟨by repeat (first | (with_reducible first | exact HI147.out | apply IsS69.alloc | apply IsS69.drewN | apply IsS69.drew) | exact HI147.out)⟩, ⟨by repeat (first | (with_reducible first | exact HB.out | apply below_alloc | apply pw_below_drewN | apply below_drew1 | refine below_set ?_ (IsS69.ge HI147.out)) | exact HB.out)⟩⟩
                                                · rw [if_neg c81] at H
                                                  have c81b0 : ((rd l0 x149_6) == x144_5) = false := beq_eq_false_iff_ne.mpr c81
                                                  have c81b1 : ((rd l0 x149_6) != x144_5) = true := bne_iff_ne.mpr c81
                                                  by_cases c82 : 0 ≤ x144_5
                                                  · rw [if_pos c82] at H
                                                    have c82b0 : decide (0 ≤ x144_5) = true := decide_eq_true c82
                                                    clear c82
                                                    by_cases c83 : x144_5 < (x12_4.length : Int)
                                                    · rw [if_pos c83] at H
                                                      have c83b0 : decide (x144_5 < (x12_4.length : Int)) = true := decide_eq_true c83
                                                      clear c83
                                                      by_cases c84 : 0 ≤ (rd l0 x149_6)
                                                      · rw [if_pos c84] at H
                                                        have c84b0 : decide (0 ≤ (rd l0 x149_6)) = true := decide_eq_true c84
                                                        clear c84
                                                        by_cases c85 : (rd l0 x149_6) < (x12_4.length : Int)
                                                        · rw [if_pos c85] at H
                                                          have c85b0 : decide ((rd l0 x149_6) < (x12_4.length : Int)) = true := decide_eq_true c85
                                                          clear c85
                                                          replace H := Option.bind_eq_some_iff.mp H
                                                          obtain ⟨t157, A860, H⟩ := H
                                                          replace H : (culletlaw15_WalshDifferences.l3 k6 l0 t134 t141 x12_4 x144_5 t157 (t134.length : Int) x144_5 l0 (l0.length : Int) (wrap64 (x149_6 + 1))) = some r := H
                                                          have A86 := Aside0.mk A860
                                                          clear A860
                                                          have H' := Aside0.mk H
                                                          clear H
                                                          have p154 : 0 ≤ (x149_6 : Int) := of_decide_eq_true (by first | (with_reducible assumption) | assumption)
                                                          have q154 : x149_6 < (l0.length : Int) := of_decide_eq_true (by first | (with_reducible assumption) | assumption)
                                                          obtain ⟨ad154, e154, hx154_0⟩ := Kd.at_int HR0.out x149_6 p154 q154
                                                          cases e154
                                                          replace hx154_0 := (HB.out.cell (World.block_lt_of_cell? w _ hx154_0)).trans hx154_0
                                                          replace p154 := eq_true p154
                                                          replace q154 := eq_true q154
                                                          obtain ⟨Ao87, co87, eo87⟩ := Kd.R_slice HO_12.out
                                                          subst eo87
                                                          have p155 : 0 ≤ (x144_5 : Int) := of_decide_eq_true (by first | (with_reducible assumption) | assumption)
                                                          have q155 : x144_5 < (x12_4.length : Int) := of_decide_eq_true (by first | (with_reducible assumption) | assumption)
                                                          obtain ⟨ad155, e155, hx155_0⟩ := Kd.at_int (Kd.R_reads' HO_12.out).2.2 x144_5 p155 q155
                                                          cases e155
                                                          replace p155 := eq_true p155
                                                          replace q155 := eq_true q155
                                                          have p156 : 0 ≤ ((rd l0 x149_6) : Int) := of_decide_eq_true (by first | (with_reducible assumption) | assumption)
                                                          have q156 : (rd l0 x149_6) < (x12_4.length : Int) := of_decide_eq_true (by first | (with_reducible assumption) | assumption)
                                                          obtain ⟨ad156, e156, hx156_0⟩ := Kd.at_int (Kd.R_reads' HO_12.out).2.2 (rd l0 x149_6) p156 q156
                                                          obtain rfl : ad155 = ad156 := (by injection e156)
                                                          replace p156 := eq_true p156
                                                          replace q156 := eq_true q156
                                                          go_wp2_with (first | (go_at_call 34; (with_reducible refine (gf16_Tables_Mul.calls g147 x17_6 (Go.bits .xor .u16 (rd x12_4 x144_5) (rd x12_4 (rd l0 x149_6))) t157 _ ?side1 A86.out).mono ?_); (case side1 => repeat (first | (with_reducible first | exact HI147.out | apply IsS69.alloc | apply IsS69.drewN | apply IsS69.drew) | exact HI147.out)); rintro e w' ⟨rfl, ⟨nd, rfl⟩⟩; (try first | exact ⟨rfl, _, World.drewN_drewN _ _ _⟩ | exact ⟨rfl, _, Eq.trans (World.drewN_drewN _ _ _) (congrArg (World.drewN _) (Nat.add_assoc _ _ _))⟩)))
                                                          repeat (go_quiet (first | (go_at_call 34; (with_reducible refine (gf16_Tables_Mul.calls g147 x17_6 (Go.bits .xor .u16 (rd x12_4 x144_5) (rd x12_4 (rd l0 x149_6))) t157 _ ?side1 A86.out).mono ?_); (case side1 => repeat (first | (with_reducible first | exact HI147.out | apply IsS69.alloc | apply IsS69.drewN | apply IsS69.drew) | exact HI147.out)); rintro e w' ⟨rfl, ⟨nd, rfl⟩⟩; (try first | exact ⟨rfl, _, World.drewN_drewN _ _ _⟩ | exact ⟨rfl, _, Eq.trans (World.drewN_drewN _ _ _) (congrArg (World.drewN _) (Nat.add_assoc _ _ _))⟩))); try go_wp2_with (first | (go_at_call 34; (with_reducible refine (gf16_Tables_Mul.calls g147 x17_6 (Go.bits .xor .u16 (rd x12_4 x144_5) (rd x12_4 (rd l0 x149_6))) t157 _ ?side1 A86.out).mono ?_); (case side1 => repeat (first | (with_reducible first | exact HI147.out | apply IsS69.alloc | apply IsS69.drewN | apply IsS69.drew) | exact HI147.out)); rintro e w' ⟨rfl, ⟨nd, rfl⟩⟩; (try first | exact ⟨rfl, _, World.drewN_drewN _ _ _⟩ | exact ⟨rfl, _, Eq.trans (World.drewN_drewN _ _ _) (congrArg (World.drewN _) (Nat.add_assoc _ _ _))⟩))))
                                                          go_roundg k6
                                                          case measure => have := HJ9.out; have := HK2.out; have := HJ52.out; have := HK4.out; have := HK5.out; have := HK6.out; omega
                                                          case rel => exact ⟨(t157), (wrap64 (x149_6 + 1)), (by first | rfl | (simp; done) | (simp [*]; done)), (by first | rfl | (simp; done) | (simp [*]; done)), H', ⟨by have := HJ9.out; have := HK2.out; have := HJ52.out; have := HK4.out; have := HK5.out; have := HK6.out; omega⟩, ⟨by (with_reducible repeat (first | apply Kd.R_alloc | apply Kd.R_drewN | apply Kd.R_drew)); exact HO_5.out⟩, ⟨by (with_reducible repeat (first | apply Kd.R_alloc | apply Kd.R_drewN | apply Kd.R_drew)); exact HO_7.out⟩, ⟨by (with_reducible repeat (first | apply Kd.R_alloc | apply Kd.R_drewN | apply Kd.R_drew)); exact HO_12.out⟩, ⟨by repeat (first | (with_reducible first | exact HI147.out | apply IsS69.alloc | apply IsS69.drewN | apply IsS69.drew) | exact HI147.out)⟩, ⟨by repeat (first | (with_reducible first | exact HB.out | apply below_alloc | apply pw_below_drewN | apply below_drew1 | refine below_set ?_ (IsS69.ge HI147.out)) | exact HB.out)⟩⟩
                                                        · rw [if_neg c85] at H
                                                          exact absurd H (by simp)
                                                      · rw [if_neg c84] at H
                                                        exact absurd H (by simp)
                                                    · rw [if_neg c83] at H
                                                      exact absurd H (by simp)
                                                  · rw [if_neg c82] at H
                                                    exact absurd H (by simp)
                                              · rw [if_neg c80] at H
                                                exact absurd H (by simp)
                                            · rw [if_neg c79] at H
                                              exact absurd H (by simp)
                                          · rw [if_neg c78] at H
                                            have c78b0 : decide (x149_6 < (l0.length : Int)) = false := decide_eq_false c78
                                            clear c78
                                            by_cases c88 : 0 ≤ x144_5
                                            · rw [if_pos c88] at H
                                              have c88b0 : decide (0 ≤ x144_5) = true := decide_eq_true c88
                                              clear c88
                                              by_cases c89 : x144_5 < (t134.length : Int)
                                              · rw [if_pos c89] at H
                                                have c89b0 : decide (x144_5 < (t134.length : Int)) = true := decide_eq_true c89
                                                clear c89
                                                by_cases c90 : (rd t134 x144_5) = x17_6
                                                · rw [if_pos c90] at H
                                                  have c90b0 : ((rd t134 x144_5) == x17_6) = true := beq_iff_eq.mpr c90
                                                  have c90b1 : ((rd t134 x144_5) != x17_6) = false := bne_eq_false_iff_eq.mpr c90
                                                  clear c90
                                                  by_cases c91 : x144_5 < (t141.length : Int)
                                                  · rw [if_pos c91] at H
                                                    have c91b0 : decide (x144_5 < (t141.length : Int)) = true := decide_eq_true c91
                                                    clear c91
                                                    by_cases c92 : (rd t141 x144_5) = 65535
                                                    · rw [if_pos c92] at H
                                                      have c92b0 : ((rd t141 x144_5) == 65535) = true := beq_iff_eq.mpr c92
                                                      have c92b1 : ((rd t141 x144_5) != 65535) = false := bne_eq_false_iff_eq.mpr c92
                                                      clear c92
                                                      obtain rfl := Option.some.inj H
                                                      have p158 : 0 ≤ (x144_5 : Int) := of_decide_eq_true (by first | (with_reducible assumption) | assumption)
                                                      have q158 : x144_5 < (t134.length : Int) := of_decide_eq_true (by first | (with_reducible assumption) | assumption)
                                                      obtain ⟨ad158, e158, hx158_0⟩ := Kd.at_int (Kd.R_reads' HO_5.out).2.2 x144_5 p158 q158
                                                      cases e158
                                                      replace p158 := eq_true p158
                                                      replace q158 := eq_true q158
                                                      obtain ⟨Ao93, co93, eo93⟩ := Kd.R_slice HO_7.out
                                                      subst eo93
                                                      have p159 : 0 ≤ (x144_5 : Int) := of_decide_eq_true (by first | (with_reducible assumption) | assumption)
                                                      have q159 : x144_5 < (t141.length : Int) := of_decide_eq_true (by first | (with_reducible assumption) | assumption)
                                                      obtain ⟨ad159, e159, hx159_0⟩ := Kd.at_int (Kd.R_reads' HO_7.out).2.2 x144_5 p159 q159
                                                      cases e159
                                                      replace p159 := eq_true p159
                                                      replace q159 := eq_true q159
                                                      go_wp2
                                                      repeat (go_quiet (fail); try go_wp2)
                                                      go_ret
                                                      exact ⟨by first | rfl | (simp [errW_none, errW_some] <;> rfl) | (simp [*, errW_none, errW_some] <;> rfl), by repeat (first | (with_reducible first | exact HB.out | apply below_alloc | apply pw_below_drewN | apply below_drew1 | refine below_set ?_ (IsS69.ge HI147.out)) | exact HB.out)⟩
                                                    · rw [if_neg c92] at H
                                                      have c92b0 : ((rd t141 x144_5) == 65535) = false := beq_eq_false_iff_ne.mpr c92
                                                      have c92b1 : ((rd t141 x144_5) != 65535) = true := bne_iff_ne.mpr c92
                                                      replace H := Option.bind_eq_some_iff.mp H
                                                      obtain ⟨t161, A940, H⟩ := H
                                                      replace H : (if t161 = (rd t134 x144_5) then (culletlaw15_WalshDifferences.l2 k6 l0 t134 t141 x12_4 (t134.length : Int) (wrap64 (x144_5 + 1))) else (some false)) = some r := H
                                                      have A94 := Aside0.mk A940
                                                      clear A940
                                                      by_cases c95 : t161 = (rd t134 x144_5)
                                                      · rw [if_pos c95] at H
                                                        have c95b0 : (t161 == (rd t134 x144_5)) = true := beq_iff_eq.mpr c95
                                                        have c95b1 : (t161 != (rd t134 x144_5)) = false := bne_eq_false_iff_eq.mpr c95
                                                        clear c95
                                                        have H' := Aside0.mk H
                                                        clear H
                                                        have p158 : 0 ≤ (x144_5 : Int) := of_decide_eq_true (by first | (with_reducible assumption) | assumption)
                                                        have q158 : x144_5 < (t134.length : Int) := of_decide_eq_true (by first | (with_reducible assumption) | assumption)
                                                        obtain ⟨ad158, e158, hx158_0⟩ := Kd.at_int (Kd.R_reads' HO_5.out).2.2 x144_5 p158 q158
                                                        cases e158
                                                        replace p158 := eq_true p158
                                                        replace q158 := eq_true q158
                                                        obtain ⟨Ao96, co96, eo96⟩ := Kd.R_slice HO_7.out
                                                        subst eo96
                                                        have p159 : 0 ≤ (x144_5 : Int) := of_decide_eq_true (by first | (with_reducible assumption) | assumption)
                                                        have q159 : x144_5 < (t141.length : Int) := of_decide_eq_true (by first | (with_reducible assumption) | assumption)
                                                        obtain ⟨ad159, e159, hx159_0⟩ := Kd.at_int (Kd.R_reads' HO_7.out).2.2 x144_5 p159 q159
                                                        cases e159
                                                        replace p159 := eq_true p159
                                                        replace q159 := eq_true q159
                                                        have p160 : 0 ≤ (x144_5 : Int) := of_decide_eq_true (by first | (with_reducible assumption) | assumption)
                                                        have q160 : x144_5 < (t141.length : Int) := of_decide_eq_true (by first | (with_reducible assumption) | assumption)
                                                        obtain ⟨ad160, e160, hx160_0⟩ := Kd.at_int (Kd.R_reads' HO_7.out).2.2 x144_5 p160 q160
                                                        obtain rfl : ad159 = ad160 := (by injection e160)
                                                        replace p160 := eq_true p160
                                                        replace q160 := eq_true q160
                                                        go_wp2_with (first | (go_at_call 32; (with_reducible refine (gf16_Tables_Exp.calls g147 (wrap64 (rd t141 x144_5)) t161 _ ?side1 A94.out).mono ?_); (case side1 => repeat (first | (with_reducible first | exact HI147.out | apply IsS69.alloc | apply IsS69.drewN | apply IsS69.drew) | exact HI147.out)); rintro e w' ⟨rfl, ⟨nd, rfl⟩⟩; (try first | exact ⟨rfl, _, World.drewN_drewN _ _ _⟩ | exact ⟨rfl, _, Eq.trans (World.drewN_drewN _ _ _) (congrArg (World.drewN _) (Nat.add_assoc _ _ _))⟩); have p162 : 0 ≤ (x144_5 : Int) := of_decide_eq_true (by first | (with_reducible assumption) | assumption); have q162 : x144_5 < (t134.length : Int) := of_decide_eq_true (by first | (with_reducible assumption) | assumption); obtain ⟨ad162, e162, hx162_0⟩ := Kd.at_int (Kd.R_reads' HO_5.out).2.2 x144_5 p162 q162; obtain rfl : ad158 = ad162 := (by injection e162); replace p162 := eq_true p162; replace q162 := eq_true q162))
                                                        repeat (go_quiet (first | (go_at_call 32; (with_reducible refine (gf16_Tables_Exp.calls g147 (wrap64 (rd t141 x144_5)) t161 _ ?side1 A94.out).mono ?_); (case side1 => repeat (first | (with_reducible first | exact HI147.out | apply IsS69.alloc | apply IsS69.drewN | apply IsS69.drew) | exact HI147.out)); rintro e w' ⟨rfl, ⟨nd, rfl⟩⟩; (try first | exact ⟨rfl, _, World.drewN_drewN _ _ _⟩ | exact ⟨rfl, _, Eq.trans (World.drewN_drewN _ _ _) (congrArg (World.drewN _) (Nat.add_assoc _ _ _))⟩))); try go_wp2_with (first | (go_at_call 32; (with_reducible refine (gf16_Tables_Exp.calls g147 (wrap64 (rd t141 x144_5)) t161 _ ?side1 A94.out).mono ?_); (case side1 => repeat (first | (with_reducible first | exact HI147.out | apply IsS69.alloc | apply IsS69.drewN | apply IsS69.drew) | exact HI147.out)); rintro e w' ⟨rfl, ⟨nd, rfl⟩⟩; (try first | exact ⟨rfl, _, World.drewN_drewN _ _ _⟩ | exact ⟨rfl, _, Eq.trans (World.drewN_drewN _ _ _) (congrArg (World.drewN _) (Nat.add_assoc _ _ _))⟩); have p162 : 0 ≤ (x144_5 : Int) := of_decide_eq_true (by first | (with_reducible assumption) | assumption); have q162 : x144_5 < (t134.length : Int) := of_decide_eq_true (by first | (with_reducible assumption) | assumption); obtain ⟨ad162, e162, hx162_0⟩ := Kd.at_int (Kd.R_reads' HO_5.out).2.2 x144_5 p162 q162; obtain rfl : ad158 = ad162 := (by injection e162); replace p162 := eq_true p162; replace q162 := eq_true q162)))
                                                        go_roundg k6
                                                        case measure => have := HJ9.out; have := HK2.out; have := HJ52.out; have := HK4.out; have := HK5.out; have := HK6.out; omega
                                                        case rel => exact ⟨(wrap64 (x144_5 + 1)), (by first | rfl | (simp; done) | (simp [*]; done)), H', ⟨by have := HJ9.out; have := HK2.out; have := HJ52.out; have := HK4.out; have := HK5.out; have := HK6.out; omega⟩, ⟨by (with_reducible repeat (first | apply Kd.R_alloc | apply Kd.R_drewN | apply Kd.R_drew)); exact HO_5.out⟩, ⟨by (with_reducible repeat (first | apply Kd.R_alloc | apply Kd.R_drewN | apply Kd.R_drew)); exact HO_7.out⟩, ⟨by (with_reducible repeat (first | apply Kd.R_alloc | apply Kd.R_drewN | apply Kd.R_drew)); exact HO_12.out⟩, ⟨by repeat (first | (with_reducible first | exact HI147.out | apply IsS69.alloc | apply IsS69.drewN | apply IsS69.drew) | exact HI147.out)⟩, ⟨by repeat (first | (with_reducible first | exact HB.out | apply below_alloc | apply pw_below_drewN | apply below_drew1 | refine below_set ?_ (IsS69.ge HI147.out)) | exact HB.out)⟩⟩
                                                      · rw [if_neg c95] at H
                                                        have c95b0 : (t161 == (rd t134 x144_5)) = false := beq_eq_false_iff_ne.mpr c95
                                                        have c95b1 : (t161 != (rd t134 x144_5)) = true := bne_iff_ne.mpr c95
                                                        obtain rfl := Option.some.inj H
                                                        have p158 : 0 ≤ (x144_5 : Int) := of_decide_eq_true (by first | (with_reducible assumption) | assumption)
                                                        have q158 : x144_5 < (t134.length : Int) := of_decide_eq_true (by first | (with_reducible assumption) | assumption)
                                                        obtain ⟨ad158, e158, hx158_0⟩ := Kd.at_int (Kd.R_reads' HO_5.out).2.2 x144_5 p158 q158
                                                        cases e158
                                                        replace p158 := eq_true p158
                                                        replace q158 := eq_true q158
                                                        obtain ⟨Ao97, co97, eo97⟩ := Kd.R_slice HO_7.out
                                                        subst eo97
                                                        have p159 : 0 ≤ (x144_5 : Int) := of_decide_eq_true (by first | (with_reducible assumption) | assumption)
                                                        have q159 : x144_5 < (t141.length : Int) := of_decide_eq_true (by first | (with_reducible assumption) | assumption)
                                                        obtain ⟨ad159, e159, hx159_0⟩ := Kd.at_int (Kd.R_reads' HO_7.out).2.2 x144_5 p159 q159
                                                        cases e159
                                                        replace p159 := eq_true p159
                                                        replace q159 := eq_true q159
                                                        have p160 : 0 ≤ (x144_5 : Int) := of_decide_eq_true (by first | (with_reducible assumption) | assumption)
                                                        have q160 : x144_5 < (t141.length : Int) := of_decide_eq_true (by first | (with_reducible assumption) | assumption)
                                                        obtain ⟨ad160, e160, hx160_0⟩ := Kd.at_int (Kd.R_reads' HO_7.out).2.2 x144_5 p160 q160
                                                        obtain rfl : ad159 = ad160 := (by injection e160)
                                                        replace p160 := eq_true p160
                                                        replace q160 := eq_true q160
                                                        go_wp2_with (first | (go_at_call 32; (with_reducible refine (gf16_Tables_Exp.calls g147 (wrap64 (rd t141 x144_5)) t161 _ ?side1 A94.out).mono ?_); (case side1 => repeat (first | (with_reducible first | exact HI147.out | apply IsS69.alloc | apply IsS69.drewN | apply IsS69.drew) | exact HI147.out)); rintro e w' ⟨rfl, ⟨nd, rfl⟩⟩; (try first | exact ⟨rfl, _, World.drewN_drewN _ _ _⟩ | exact ⟨rfl, _, Eq.trans (World.drewN_drewN _ _ _) (congrArg (World.drewN _) (Nat.add_assoc _ _ _))⟩); have p162 : 0 ≤ (x144_5 : Int) := of_decide_eq_true (by first | (with_reducible assumption) | assumption); have q162 : x144_5 < (t134.length : Int) := of_decide_eq_true (by first | (with_reducible assumption) | assumption); obtain ⟨ad162, e162, hx162_0⟩ := Kd.at_int (Kd.R_reads' HO_5.out).2.2 x144_5 p162 q162; obtain rfl : ad158 = ad162 := (by injection e162); replace p162 := eq_true p162; replace q162 := eq_true q162))
                                                        repeat (go_quiet (first | (go_at_call 32; (with_reducible refine (gf16_Tables_Exp.calls g147 (wrap64 (rd t141 x144_5)) t161 _ ?side1 A94.out).mono ?_); (case side1 => repeat (first | (with_reducible first | exact HI147.out | apply IsS69.alloc | apply IsS69.drewN | apply IsS69.drew) | exact HI147.out)); rintro e w' ⟨rfl, ⟨nd, rfl⟩⟩; (try first | exact ⟨rfl, _, World.drewN_drewN _ _ _⟩ | exact ⟨rfl, _, Eq.trans (World.drewN_drewN _ _ _) (congrArg (World.drewN _) (Nat.add_assoc _ _ _))⟩))); try go_wp2_with (first | (go_at_call 32; (with_reducible refine (gf16_Tables_Exp.calls g147 (wrap64 (rd t141 x144_5)) t161 _ ?side1 A94.out).mono ?_); (case side1 => repeat (first | (with_reducible first | exact HI147.out | apply IsS69.alloc | apply IsS69.drewN | apply IsS69.drew) | exact HI147.out)); rintro e w' ⟨rfl, ⟨nd, rfl⟩⟩; (try first | exact ⟨rfl, _, World.drewN_drewN _ _ _⟩ | exact ⟨rfl, _, Eq.trans (World.drewN_drewN _ _ _) (congrArg (World.drewN _) (Nat.add_assoc _ _ _))⟩); have p162 : 0 ≤ (x144_5 : Int) := of_decide_eq_true (by first | (with_reducible assumption) | assumption); have q162 : x144_5 < (t134.length : Int) := of_decide_eq_true (by first | (with_reducible assumption) | assumption); obtain ⟨ad162, e162, hx162_0⟩ := Kd.at_int (Kd.R_reads' HO_5.out).2.2 x144_5 p162 q162; obtain rfl : ad158 = ad162 := (by injection e162); replace p162 := eq_true p162; replace q162 := eq_true q162)))
                                                        go_ret
                                                        exact ⟨by first | rfl | (simp [errW_none, errW_some] <;> rfl) | (simp [*, errW_none, errW_some] <;> rfl), by repeat (first | (with_reducible first | exact HB.out | apply below_alloc | apply pw_below_drewN | apply below_drew1 | refine below_set ?_ (IsS69.ge HI147.out)) | exact HB.out)⟩
                                                  · rw [if_neg c91] at H
                                                    exact absurd H (by simp)
                                                · rw [if_neg c90] at H
                                                  have c90b0 : ((rd t134 x144_5) == x17_6) = false := beq_eq_false_iff_ne.mpr c90
                                                  have c90b1 : ((rd t134 x144_5) != x17_6) = true := bne_iff_ne.mpr c90
                                                  obtain rfl := Option.some.inj H
                                                  have p158 : 0 ≤ (x144_5 : Int) := of_decide_eq_true (by first | (with_reducible assumption) | assumption)
                                                  have q158 : x144_5 < (t134.length : Int) := of_decide_eq_true (by first | (with_reducible assumption) | assumption)
                                                  obtain ⟨ad158, e158, hx158_0⟩ := Kd.at_int (Kd.R_reads' HO_5.out).2.2 x144_5 p158 q158
                                                  cases e158
                                                  replace p158 := eq_true p158
                                                  replace q158 := eq_true q158
                                                  go_wp2
                                                  repeat (go_quiet (fail); try go_wp2)
                                                  go_ret
                                                  exact ⟨by first | rfl | (simp [errW_none, errW_some] <;> rfl) | (simp [*, errW_none, errW_some] <;> rfl), by repeat (first | (with_reducible first | exact HB.out | apply below_alloc | apply pw_below_drewN | apply below_drew1 | refine below_set ?_ (IsS69.ge HI147.out)) | exact HB.out)⟩
                                              · rw [if_neg c89] at H
                                                exact absurd H (by simp)
                                            · rw [if_neg c88] at H
                                              exact absurd H (by simp)
                                    · rw [if_neg c77] at H
                                      have c77b0 : decide (x144_5 < (t134.length : Int)) = false := decide_eq_false c77
                                      clear c77
                                      obtain rfl := Option.some.inj H
                                      go_wp2
                                      repeat (go_quiet (fail); try go_wp2)
                                      go_ret
                                      exact ⟨by first | rfl | (simp [errW_none, errW_some] <;> rfl) | (simp [*, errW_none, errW_some] <;> rfl), by repeat (first | (with_reducible first | exact HB.out | apply below_alloc | apply pw_below_drewN | apply below_drew1 | refine below_set ?_ (IsS69.ge HI147.out)) | exact HB.out)⟩
                        · rw [if_neg c67] at H
                          have c67b0 : (t148 == 2) = false := beq_eq_false_iff_ne.mpr c67
                          have c67b1 : (t148 != 2) = true := bne_iff_ne.mpr c67
                          obtain rfl := Option.some.inj H
                          go_wp2_with (first | (go_at_call 31; (with_reducible refine (gf16_New.calls   w _ ?side1 A65.out).mono ?_); (case side1 => repeat (first | (with_reducible first | exact HB.out | apply below_alloc | apply pw_below_drewN | apply below_drew1) | exact HB.out)); rintro e w98 ⟨g147, rfl, hi, hb, hb2⟩; have n0_ := Aside0.mk (Kd.R_below (by (with_reducible repeat (first | apply Kd.R_alloc | apply Kd.R_drewN | apply Kd.R_drew)); exact HO_5.out) hb2); have n1_ := Aside0.mk (Kd.R_below (by (with_reducible repeat (first | apply Kd.R_alloc | apply Kd.R_drewN | apply Kd.R_drew)); exact HO_7.out) hb2); have n2_ := Aside0.mk (hb); have n3_ := Aside0.mk (hi); clear HO_5; clear HO_7; clear HB; have HO_5 := n0_; have HO_7 := n1_; have HB := n2_; have HI147 := n3_; clear n0_ n1_ n2_ n3_; (try clear hb); (try clear hb2); (try clear hk); (try clear hi)) | (go_at_call 32; (with_reducible refine (gf16_Tables_Exp.calls g147 1 t148 _ ?side1 A66.out).mono ?_); (case side1 => repeat (first | (with_reducible first | exact HI147.out | apply IsS69.alloc | apply IsS69.drewN | apply IsS69.drew) | exact HI147.out)); rintro e w' ⟨rfl, ⟨nd, rfl⟩⟩; (try first | exact ⟨rfl, _, World.drewN_drewN _ _ _⟩ | exact ⟨rfl, _, Eq.trans (World.drewN_drewN _ _ _) (congrArg (World.drewN _) (Nat.add_assoc _ _ _))⟩)))
                          repeat (go_quiet (first | (go_at_call 31; (with_reducible refine (gf16_New.calls   w _ ?side1 A65.out).mono ?_); (case side1 => repeat (first | (with_reducible first | exact HB.out | apply below_alloc | apply pw_below_drewN | apply below_drew1) | exact HB.out)); rintro e w98 ⟨g147, rfl, hi, hb, hb2⟩; have n0_ := Aside0.mk (Kd.R_below (by (with_reducible repeat (first | apply Kd.R_alloc | apply Kd.R_drewN | apply Kd.R_drew)); exact HO_5.out) hb2); have n1_ := Aside0.mk (Kd.R_below (by (with_reducible repeat (first | apply Kd.R_alloc | apply Kd.R_drewN | apply Kd.R_drew)); exact HO_7.out) hb2); have n2_ := Aside0.mk (hb); have n3_ := Aside0.mk (hi); clear HO_5; clear HO_7; clear HB; have HO_5 := n0_; have HO_7 := n1_; have HB := n2_; have HI147 := n3_; clear n0_ n1_ n2_ n3_; (try clear hb); (try clear hb2); (try clear hk); (try clear hi)) | (go_at_call 32; (with_reducible refine (gf16_Tables_Exp.calls g147 1 t148 _ ?side1 A66.out).mono ?_); (case side1 => repeat (first | (with_reducible first | exact HI147.out | apply IsS69.alloc | apply IsS69.drewN | apply IsS69.drew) | exact HI147.out)); rintro e w' ⟨rfl, ⟨nd, rfl⟩⟩; (try first | exact ⟨rfl, _, World.drewN_drewN _ _ _⟩ | exact ⟨rfl, _, Eq.trans (World.drewN_drewN _ _ _) (congrArg (World.drewN _) (Nat.add_assoc _ _ _))⟩))); try go_wp2_with (first | (go_at_call 31; (with_reducible refine (gf16_New.calls   w _ ?side1 A65.out).mono ?_); (case side1 => repeat (first | (with_reducible first | exact HB.out | apply below_alloc | apply pw_below_drewN | apply below_drew1) | exact HB.out)); rintro e w98 ⟨g147, rfl, hi, hb, hb2⟩; have n0_ := Aside0.mk (Kd.R_below (by (with_reducible repeat (first | apply Kd.R_alloc | apply Kd.R_drewN | apply Kd.R_drew)); exact HO_5.out) hb2); have n1_ := Aside0.mk (Kd.R_below (by (with_reducible repeat (first | apply Kd.R_alloc | apply Kd.R_drewN | apply Kd.R_drew)); exact HO_7.out) hb2); have n2_ := Aside0.mk (hb); have n3_ := Aside0.mk (hi); clear HO_5; clear HO_7; clear HB; have HO_5 := n0_; have HO_7 := n1_; have HB := n2_; have HI147 := n3_; clear n0_ n1_ n2_ n3_; (try clear hb); (try clear hb2); (try clear hk); (try clear hi)) | (go_at_call 32; (with_reducible refine (gf16_Tables_Exp.calls g147 1 t148 _ ?side1 A66.out).mono ?_); (case side1 => repeat (first | (with_reducible first | exact HI147.out | apply IsS69.alloc | apply IsS69.drewN | apply IsS69.drew) | exact HI147.out)); rintro e w' ⟨rfl, ⟨nd, rfl⟩⟩; (try first | exact ⟨rfl, _, World.drewN_drewN _ _ _⟩ | exact ⟨rfl, _, Eq.trans (World.drewN_drewN _ _ _) (congrArg (World.drewN _) (Nat.add_assoc _ _ _))⟩))))
                          go_ret
                          exact ⟨by first | rfl | (simp [errW_none, errW_some] <;> rfl) | (simp [*, errW_none, errW_some] <;> rfl), by repeat (first | (with_reducible first | exact HB.out | apply below_alloc | apply pw_below_drewN | apply below_drew1 | refine below_set ?_ (IsS69.ge HI147.out)) | exact HB.out)⟩
    · rw [if_neg c9] at H
      have c9b0 : (t135 == t142) = false := beq_eq_false_iff_ne.mpr c9
      have c9b1 : (t135 != t142) = true := bne_iff_ne.mpr c9
      obtain rfl := Option.some.inj H
      go_enter Try.func8, Try.ntmps8
      go_wp2_with (first | (go_at_call 11; (with_reducible refine (culletlaw15_fixed.calls k  true _ A3.out).mono ?_); rintro e w99 ⟨rfl, hb⟩; have n0_ := Aside0.mk (below_step (by repeat (first | (with_reducible first | exact HB.out | apply below_alloc | apply pw_below_drewN | apply below_drew1) | exact HB.out)) hb); clear HB; have HB := n0_; clear n0_; (try clear hb); (try clear hb2); (try clear hk); (try clear hi)) | (go_at_call 22; (with_reducible refine (culletlaw15_copiedInts.calls k _ _ l0 t131 _ ?side1 ?side2 A5.out).mono ?_); (case side1 => repeat (first | exact (Kd.C_below HR0.out HB.out) | (with_reducible refine Kd.C_alloc ?_ _) | (with_reducible refine Kd.C_drewN ?_ _) | (with_reducible refine Kd.C_drew ?_))); (case side2 => exact HC0.out); rintro e w100 ⟨v132, rfl, ho0, hb⟩; have n0_ := Aside0.mk (Kd.R_lower ho0 (below_size (by repeat (first | (with_reducible first | exact HB.out | apply below_alloc | apply pw_below_drewN | apply below_drew1) | exact HB.out)))); have n1_ := Aside0.mk (below_step (by repeat (first | (with_reducible first | exact HB.out | apply below_alloc | apply pw_below_drewN | apply below_drew1) | exact HB.out)) hb); clear HB; have HO133 := n0_; have HB := n1_; clear n0_ n1_; (try clear hb); (try clear hb2); (try clear hk); (try clear hi); (try clear ho0); obtain ⟨Ao101, co101, eo101⟩ := Kd.R_slice HO133.out; subst eo101; clear A5) | (go_at_call 26; (with_reducible refine (walsh_Products.calls _ _ t131 a1 t134 t135 _ ?side1 ?side2 A6.out).mono ?_); (case side1 => repeat (first | exact (Kd.R_reads' HO133.out).2.2 | (with_reducible refine Kd.C_alloc ?_ _) | (with_reducible refine Kd.C_drewN ?_ _) | (with_reducible refine Kd.C_drew ?_))); (case side2 => exact (Kd.R_reads' HO133.out).2.1); rintro e w102 ⟨v136, rfl, ho0, hb⟩; have n0_ := Aside0.mk (Kd.R_below (by (with_reducible repeat (first | apply Kd.R_alloc | apply Kd.R_drewN | apply Kd.R_drew)); exact HO133.out) hb); have n1_ := Aside0.mk (Kd.R_lower ho0 (below_size (by repeat (first | (with_reducible first | exact HB.out | apply below_alloc | apply pw_below_drewN | apply below_drew1) | exact HB.out)))); have n2_ := Aside0.mk (below_step (by repeat (first | (with_reducible first | exact HB.out | apply below_alloc | apply pw_below_drewN | apply below_drew1) | exact HB.out)) hb); clear HO133; clear HB; have HO133 := n0_; have HO137 := n1_; have HB := n2_; clear n0_ n1_ n2_; (try clear hb); (try clear hb2); (try clear hk); (try clear hi); (try clear ho0)) | (go_at_call 22; (with_reducible refine (culletlaw15_copiedInts.calls k _ _ l0 t138 _ ?side1 ?side2 A7.out).mono ?_); (case side1 => repeat (first | exact (Kd.C_below HR0.out HB.out) | (with_reducible refine Kd.C_alloc ?_ _) | (with_reducible refine Kd.C_drewN ?_ _) | (with_reducible refine Kd.C_drew ?_))); (case side2 => exact HC0.out); rintro e w103 ⟨v139, rfl, ho0, hb⟩; have n0_ := Aside0.mk (Kd.R_elder' (by (with_reducible repeat (first | apply Kd.R_alloc | apply Kd.R_drewN | apply Kd.R_drew)); exact HO133.out) (Kd.R_base ho0) hb); have n1_ := Aside0.mk (Kd.R_below (by (with_reducible repeat (first | apply Kd.R_alloc | apply Kd.R_drewN | apply Kd.R_drew)); exact HO137.out) hb); have n2_ := Aside0.mk (Kd.R_lower (Kd.R_new' ho0 (Kd.R_lt (by (with_reducible repeat (first | apply Kd.R_alloc | apply Kd.R_drewN | apply Kd.R_drew)); exact HO133.out))) (below_size (by repeat (first | (with_reducible first | exact HB.out | apply below_alloc | apply pw_below_drewN | apply below_drew1) | exact HB.out)))); have n3_ := Aside0.mk (below_step (by repeat (first | (with_reducible first | exact HB.out | apply below_alloc | apply pw_below_drewN | apply below_drew1) | exact HB.out)) hb); clear HO133; clear HO137; clear HB; have HO133 := n0_; have HO137 := n1_; have HO140 := n2_; have HB := n3_; clear n0_ n1_ n2_ n3_; (try clear hb); (try clear hb2); (try clear hk); (try clear hi); (try clear ho0); obtain ⟨Ao104, co104, eo104⟩ := Kd.R_slice HO140.out; subst eo104; clear A7) | (go_at_call 23; (with_reducible refine (walsh_Locator.calls _ _ t138 a1 t141 t142 _ ?side1 ?side2 A8.out).mono ?_); (case side1 => repeat (first | exact (Kd.R_reads' HO140.out).2.2 | (with_reducible refine Kd.C_alloc ?_ _) | (with_reducible refine Kd.C_drewN ?_ _) | (with_reducible refine Kd.C_drew ?_))); (case side2 => exact (Kd.R_reads' HO140.out).2.1); rintro e w105 ⟨v143, rfl, ho0, hb⟩; have n0_ := Aside0.mk (Kd.R_below (by (with_reducible repeat (first | apply Kd.R_alloc | apply Kd.R_drewN | apply Kd.R_drew)); exact HO133.out) hb); have n1_ := Aside0.mk (Kd.R_elder' (by (with_reducible repeat (first | apply Kd.R_alloc | apply Kd.R_drewN | apply Kd.R_drew)); exact HO137.out) (Kd.R_base ho0) hb); have n2_ := Aside0.mk (Kd.R_below (by (with_reducible repeat (first | apply Kd.R_alloc | apply Kd.R_drewN | apply Kd.R_drew)); exact HO140.out) hb); have n3_ := Aside0.mk (Kd.R_lower (Kd.R_new' ho0 (Kd.R_lt (by (with_reducible repeat (first | apply Kd.R_alloc | apply Kd.R_drewN | apply Kd.R_drew)); exact HO137.out))) (below_size (by repeat (first | (with_reducible first | exact HB.out | apply below_alloc | apply pw_below_drewN | apply below_drew1) | exact HB.out)))); have n4_ := Aside0.mk (below_step (by repeat (first | (with_reducible first | exact HB.out | apply below_alloc | apply pw_below_drewN | apply below_drew1) | exact HB.out)) hb); clear HO133; clear HO137; clear HO140; clear HB; have HO133 := n0_; have HO137 := n1_; have HO140 := n2_; have HO144 := n3_; have HB := n4_; clear n0_ n1_ n2_ n3_ n4_; (try clear hb); (try clear hb2); (try clear hk); (try clear hi); (try clear ho0)))
      repeat (go_quiet (first | (go_at_call 11; (with_reducible refine (culletlaw15_fixed.calls k  true _ A3.out).mono ?_); rintro e w99 ⟨rfl, hb⟩; have n0_ := Aside0.mk (below_step (by repeat (first | (with_reducible first | exact HB.out | apply below_alloc | apply pw_below_drewN | apply below_drew1) | exact HB.out)) hb); clear HB; have HB := n0_; clear n0_; (try clear hb); (try clear hb2); (try clear hk); (try clear hi)) | (go_at_call 22; (with_reducible refine (culletlaw15_copiedInts.calls k _ _ l0 t131 _ ?side1 ?side2 A5.out).mono ?_); (case side1 => repeat (first | exact (Kd.C_below HR0.out HB.out) | (with_reducible refine Kd.C_alloc ?_ _) | (with_reducible refine Kd.C_drewN ?_ _) | (with_reducible refine Kd.C_drew ?_))); (case side2 => exact HC0.out); rintro e w100 ⟨v132, rfl, ho0, hb⟩; have n0_ := Aside0.mk (Kd.R_lower ho0 (below_size (by repeat (first | (with_reducible first | exact HB.out | apply below_alloc | apply pw_below_drewN | apply below_drew1) | exact HB.out)))); have n1_ := Aside0.mk (below_step (by repeat (first | (with_reducible first | exact HB.out | apply below_alloc | apply pw_below_drewN | apply below_drew1) | exact HB.out)) hb); clear HB; have HO133 := n0_; have HB := n1_; clear n0_ n1_; (try clear hb); (try clear hb2); (try clear hk); (try clear hi); (try clear ho0); obtain ⟨Ao101, co101, eo101⟩ := Kd.R_slice HO133.out; subst eo101; clear A5) | (go_at_call 26; (with_reducible refine (walsh_Products.calls _ _ t131 a1 t134 t135 _ ?side1 ?side2 A6.out).mono ?_); (case side1 => repeat (first | exact (Kd.R_reads' HO133.out).2.2 | (with_reducible refine Kd.C_alloc ?_ _) | (with_reducible refine Kd.C_drewN ?_ _) | (with_reducible refine Kd.C_drew ?_))); (case side2 => exact (Kd.R_reads' HO133.out).2.1); rintro e w102 ⟨v136, rfl, ho0, hb⟩; have n0_ := Aside0.mk (Kd.R_below (by (with_reducible repeat (first | apply Kd.R_alloc | apply Kd.R_drewN | apply Kd.R_drew)); exact HO133.out) hb); have n1_ := Aside0.mk (Kd.R_lower ho0 (below_size (by repeat (first | (with_reducible first | exact HB.out | apply below_alloc | apply pw_below_drewN | apply below_drew1) | exact HB.out)))); have n2_ := Aside0.mk (below_step (by repeat (first | (with_reducible first | exact HB.out | apply below_alloc | apply pw_below_drewN | apply below_drew1) | exact HB.out)) hb); clear HO133; clear HB; have HO133 := n0_; have HO137 := n1_; have HB := n2_; clear n0_ n1_ n2_; (try clear hb); (try clear hb2); (try clear hk); (try clear hi); (try clear ho0)) | (go_at_call 22; (with_reducible refine (culletlaw15_copiedInts.calls k _ _ l0 t138 _ ?side1 ?side2 A7.out).mono ?_); (case side1 => repeat (first | exact (Kd.C_below HR0.out HB.out) | (with_reducible refine Kd.C_alloc ?_ _) | (with_reducible refine Kd.C_drewN ?_ _) | (with_reducible refine Kd.C_drew ?_))); (case side2 => exact HC0.out); rintro e w103 ⟨v139, rfl, ho0, hb⟩; have n0_ := Aside0.mk (Kd.R_elder' (by (with_reducible repeat (first | apply Kd.R_alloc | apply Kd.R_drewN | apply Kd.R_drew)); exact HO133.out) (Kd.R_base ho0) hb); have n1_ := Aside0.mk (Kd.R_below (by (with_reducible repeat (first | apply Kd.R_alloc | apply Kd.R_drewN | apply Kd.R_drew)); exact HO137.out) hb); have n2_ := Aside0.mk (Kd.R_lower (Kd.R_new' ho0 (Kd.R_lt (by (with_reducible repeat (first | apply Kd.R_alloc | apply Kd.R_drewN | apply Kd.R_drew)); exact HO133.out))) (below_size (by repeat (first | (with_reducible first | exact HB.out | apply below_alloc | apply pw_below_drewN | apply below_drew1) | exact HB.out)))); have n3_ := Aside0.mk (below_step (by repeat (first | (with_reducible first | exact HB.out | apply below_alloc | apply pw_below_drewN | apply below_drew1) | exact HB.out)) hb); clear HO133; clear HO137; clear HB; have HO133 := n0_; have HO137 := n1_; have HO140 := n2_; have HB := n3_; clear n0_ n1_ n2_ n3_; (try clear hb); (try clear hb2); (try clear hk); (try clear hi); (try clear ho0); obtain ⟨Ao104, co104, eo104⟩ := Kd.R_slice HO140.out; subst eo104; clear A7) | (go_at_call 23; (with_reducible refine (walsh_Locator.calls _ _ t138 a1 t141 t142 _ ?side1 ?side2 A8.out).mono ?_); (case side1 => repeat (first | exact (Kd.R_reads' HO140.out).2.2 | (with_reducible refine Kd.C_alloc ?_ _) | (with_reducible refine Kd.C_drewN ?_ _) | (with_reducible refine Kd.C_drew ?_))); (case side2 => exact (Kd.R_reads' HO140.out).2.1); rintro e w105 ⟨v143, rfl, ho0, hb⟩; have n0_ := Aside0.mk (Kd.R_below (by (with_reducible repeat (first | apply Kd.R_alloc | apply Kd.R_drewN | apply Kd.R_drew)); exact HO133.out) hb); have n1_ := Aside0.mk (Kd.R_elder' (by (with_reducible repeat (first | apply Kd.R_alloc | apply Kd.R_drewN | apply Kd.R_drew)); exact HO137.out) (Kd.R_base ho0) hb); have n2_ := Aside0.mk (Kd.R_below (by (with_reducible repeat (first | apply Kd.R_alloc | apply Kd.R_drewN | apply Kd.R_drew)); exact HO140.out) hb); have n3_ := Aside0.mk (Kd.R_lower (Kd.R_new' ho0 (Kd.R_lt (by (with_reducible repeat (first | apply Kd.R_alloc | apply Kd.R_drewN | apply Kd.R_drew)); exact HO137.out))) (below_size (by repeat (first | (with_reducible first | exact HB.out | apply below_alloc | apply pw_below_drewN | apply below_drew1) | exact HB.out)))); have n4_ := Aside0.mk (below_step (by repeat (first | (with_reducible first | exact HB.out | apply below_alloc | apply pw_below_drewN | apply below_drew1) | exact HB.out)) hb); clear HO133; clear HO137; clear HO140; clear HB; have HO133 := n0_; have HO137 := n1_; have HO140 := n2_; have HO144 := n3_; have HB := n4_; clear n0_ n1_ n2_ n3_ n4_; (try clear hb); (try clear hb2); (try clear hk); (try clear hi); (try clear ho0))); try go_wp2_with (first | (go_at_call 11; (with_reducible refine (culletlaw15_fixed.calls k  true _ A3.out).mono ?_); rintro e w99 ⟨rfl, hb⟩; have n0_ := Aside0.mk (below_step (by repeat (first | (with_reducible first | exact HB.out | apply below_alloc | apply pw_below_drewN | apply below_drew1) | exact HB.out)) hb); clear HB; have HB := n0_; clear n0_; (try clear hb); (try clear hb2); (try clear hk); (try clear hi)) | (go_at_call 22; (with_reducible refine (culletlaw15_copiedInts.calls k _ _ l0 t131 _ ?side1 ?side2 A5.out).mono ?_); (case side1 => repeat (first | exact (Kd.C_below HR0.out HB.out) | (with_reducible refine Kd.C_alloc ?_ _) | (with_reducible refine Kd.C_drewN ?_ _) | (with_reducible refine Kd.C_drew ?_))); (case side2 => exact HC0.out); rintro e w100 ⟨v132, rfl, ho0, hb⟩; have n0_ := Aside0.mk (Kd.R_lower ho0 (below_size (by repeat (first | (with_reducible first | exact HB.out | apply below_alloc | apply pw_below_drewN | apply below_drew1) | exact HB.out)))); have n1_ := Aside0.mk (below_step (by repeat (first | (with_reducible first | exact HB.out | apply below_alloc | apply pw_below_drewN | apply below_drew1) | exact HB.out)) hb); clear HB; have HO133 := n0_; have HB := n1_; clear n0_ n1_; (try clear hb); (try clear hb2); (try clear hk); (try clear hi); (try clear ho0); obtain ⟨Ao101, co101, eo101⟩ := Kd.R_slice HO133.out; subst eo101) | (go_at_call 26; (with_reducible refine (walsh_Products.calls _ _ t131 a1 t134 t135 _ ?side1 ?side2 A6.out).mono ?_); (case side1 => repeat (first | exact (Kd.R_reads' HO133.out).2.2 | (with_reducible refine Kd.C_alloc ?_ _) | (with_reducible refine Kd.C_drewN ?_ _) | (with_reducible refine Kd.C_drew ?_))); (case side2 => exact (Kd.R_reads' HO133.out).2.1); rintro e w102 ⟨v136, rfl, ho0, hb⟩; have n0_ := Aside0.mk (Kd.R_below (by (with_reducible repeat (first | apply Kd.R_alloc | apply Kd.R_drewN | apply Kd.R_drew)); exact HO133.out) hb); have n1_ := Aside0.mk (Kd.R_lower ho0 (below_size (by repeat (first | (with_reducible first | exact HB.out | apply below_alloc | apply pw_below_drewN | apply below_drew1) | exact HB.out)))); have n2_ := Aside0.mk (below_step (by repeat (first | (with_reducible first | exact HB.out | apply below_alloc | apply pw_below_drewN | apply below_drew1) | exact HB.out)) hb); clear HO133; clear HB; have HO133 := n0_; have HO137 := n1_; have HB := n2_; clear n0_ n1_ n2_; (try clear hb); (try clear hb2); (try clear hk); (try clear hi); (try clear ho0)) | (go_at_call 22; (with_reducible refine (culletlaw15_copiedInts.calls k _ _ l0 t138 _ ?side1 ?side2 A7.out).mono ?_); (case side1 => repeat (first | exact (Kd.C_below HR0.out HB.out) | (with_reducible refine Kd.C_alloc ?_ _) | (with_reducible refine Kd.C_drewN ?_ _) | (with_reducible refine Kd.C_drew ?_))); (case side2 => exact HC0.out); rintro e w103 ⟨v139, rfl, ho0, hb⟩; have n0_ := Aside0.mk (Kd.R_elder' (by (with_reducible repeat (first | apply Kd.R_alloc | apply Kd.R_drewN | apply Kd.R_drew)); exact HO133.out) (Kd.R_base ho0) hb); have n1_ := Aside0.mk (Kd.R_below (by (with_reducible repeat (first | apply Kd.R_alloc | apply Kd.R_drewN | apply Kd.R_drew)); exact HO137.out) hb); have n2_ := Aside0.mk (Kd.R_lower (Kd.R_new' ho0 (Kd.R_lt (by (with_reducible repeat (first | apply Kd.R_alloc | apply Kd.R_drewN | apply Kd.R_drew)); exact HO133.out))) (below_size (by repeat (first | (with_reducible first | exact HB.out | apply below_alloc | apply pw_below_drewN | apply below_drew1) | exact HB.out)))); have n3_ := Aside0.mk (below_step (by repeat (first | (with_reducible first | exact HB.out | apply below_alloc | apply pw_below_drewN | apply below_drew1) | exact HB.out)) hb); clear HO133; clear HO137; clear HB; have HO133 := n0_; have HO137 := n1_; have HO140 := n2_; have HB := n3_; clear n0_ n1_ n2_ n3_; (try clear hb); (try clear hb2); (try clear hk); (try clear hi); (try clear ho0); obtain ⟨Ao104, co104, eo104⟩ := Kd.R_slice HO140.out; subst eo104) | (go_at_call 23; (with_reducible refine (walsh_Locator.calls _ _ t138 a1 t141 t142 _ ?side1 ?side2 A8.out).mono ?_); (case side1 => repeat (first | exact (Kd.R_reads' HO140.out).2.2 | (with_reducible refine Kd.C_alloc ?_ _) | (with_reducible refine Kd.C_drewN ?_ _) | (with_reducible refine Kd.C_drew ?_))); (case side2 => exact (Kd.R_reads' HO140.out).2.1); rintro e w105 ⟨v143, rfl, ho0, hb⟩; have n0_ := Aside0.mk (Kd.R_below (by (with_reducible repeat (first | apply Kd.R_alloc | apply Kd.R_drewN | apply Kd.R_drew)); exact HO133.out) hb); have n1_ := Aside0.mk (Kd.R_elder' (by (with_reducible repeat (first | apply Kd.R_alloc | apply Kd.R_drewN | apply Kd.R_drew)); exact HO137.out) (Kd.R_base ho0) hb); have n2_ := Aside0.mk (Kd.R_below (by (with_reducible repeat (first | apply Kd.R_alloc | apply Kd.R_drewN | apply Kd.R_drew)); exact HO140.out) hb); have n3_ := Aside0.mk (Kd.R_lower (Kd.R_new' ho0 (Kd.R_lt (by (with_reducible repeat (first | apply Kd.R_alloc | apply Kd.R_drewN | apply Kd.R_drew)); exact HO137.out))) (below_size (by repeat (first | (with_reducible first | exact HB.out | apply below_alloc | apply pw_below_drewN | apply below_drew1) | exact HB.out)))); have n4_ := Aside0.mk (below_step (by repeat (first | (with_reducible first | exact HB.out | apply below_alloc | apply pw_below_drewN | apply below_drew1) | exact HB.out)) hb); clear HO133; clear HO137; clear HO140; clear HB; have HO133 := n0_; have HO137 := n1_; have HO140 := n2_; have HO144 := n3_; have HB := n4_; clear n0_ n1_ n2_ n3_ n4_; (try clear hb); (try clear hb2); (try clear hk); (try clear hi); (try clear ho0))))
      go_ret
      exact ⟨by first | rfl | (simp [errW_none, errW_some] <;> rfl) | (simp [*, errW_none, errW_some] <;> rfl), by repeat (first | (with_reducible first | exact HB.out | apply below_alloc | apply pw_below_drewN | apply below_drew1) | exact HB.out)⟩
  · replace c4 := Bool.eq_false_iff.mpr c4
    subst c4
    have H1 : (some false) = some r := by rw [if_neg (show ¬ (false = true) by decide)] at H; exact H
    clear H
    have H := H1
    clear H1
    obtain rfl := Option.some.inj H
    go_enter Try.func8, Try.ntmps8
    go_wp2_with (first | (go_at_call 11; (with_reducible refine (culletlaw15_fixed.calls k  false _ A3.out).mono ?_); rintro e w106 ⟨rfl, hb⟩; have n0_ := Aside0.mk (below_step (by repeat (first | (with_reducible first | exact HB.out | apply below_alloc | apply pw_below_drewN | apply below_drew1) | exact HB.out)) hb); clear HB; have HB := n0_; clear n0_; (try clear hb); (try clear hb2); (try clear hk); (try clear hi)))
    repeat (go_quiet (first | (go_at_call 11; (with_reducible refine (culletlaw15_fixed.calls k  false _ A3.out).mono ?_); rintro e w106 ⟨rfl, hb⟩; have n0_ := Aside0.mk (below_step (by repeat (first | (with_reducible first | exact HB.out | apply below_alloc | apply pw_below_drewN | apply below_drew1) | exact HB.out)) hb); clear HB; have HB := n0_; clear n0_; (try clear hb); (try clear hb2); (try clear hk); (try clear hi))); try go_wp2_with (first | (go_at_call 11; (with_reducible refine (culletlaw15_fixed.calls k  false _ A3.out).mono ?_); rintro e w106 ⟨rfl, hb⟩; have n0_ := Aside0.mk (below_step (by repeat (first | (with_reducible first | exact HB.out | apply below_alloc | apply pw_below_drewN | apply below_drew1) | exact HB.out)) hb); clear HB; have HB := n0_; clear n0_; (try clear hb); (try clear hb2); (try clear hk); (try clear hi))))
    go_ret
    exact ⟨by first | rfl | (simp [errW_none, errW_some] <;> rfl) | (simp [*, errW_none, errW_some] <;> rfl), by repeat (first | (with_reducible first | exact HB.out | apply below_alloc | apply pw_below_drewN | apply below_drew1) | exact HB.out)⟩

/-- THE ONE PURE STATEMENT of culletlaw15_WalshDifferences: yours. -/
def culletlaw15_WalshDifferences.Pure : Prop := ∀ (l0 : List Int) (a1 : Int), l0.length ≤ maxLen → l0.length * 8 ≤ 140737488351232 → (∀ x ∈ l0, (Lit.int .i64 x).wf = true) → (Lit.int .i64 a1).wf = true → ∃ k, culletlaw15_WalshDifferences.f k l0 a1 = some true
theorem culletlaw15_WalshDifferences.walk (P : culletlaw15_WalshDifferences.Pure) (a0 : Option Addr) (len0 cap0 : Nat) (z0 : List Int) (a1 : Int) (w : World) (w0 : (a0 = none ∧ len0 = 0 ∧ cap0 = 0 ∧ z0 = []) ∨ ∃ x, a0 = some x ∧ len0 ≤ cap0 ∧ cap0 ≤ maxLen ∧ z0.length = cap0 ∧ (∀ i, i < z0.length → w.cell? (x.add i) = some (.int .i64 (z0.getD i 0))) ∧ ∀ n ∈ z0, (Lit.int .i64 n).wf = true) (y0 : len0 * 8 ≤ 140737488351232) (w1 : (Lit.int .i64 a1).wf = true) :
    Calls Try.prog 8 #[.slice a0 len0 cap0, .int .i64 a1] w fun e w' => e = .returned (.bool true) ∧ Below w.heap.size w w' := by
  obtain ⟨l0, rfl, hr0, hm0, hw0, hc0⟩ := ReadsInt.ofRowC w0
  obtain ⟨k, h⟩ := P l0 a1 hm0 y0 hw0 w1
  refine (culletlaw15_WalshDifferences.calls k _ _ l0 a1 true w (Kd.C_of_reads (d := (0 : Int)) (h1 := fun _ => rfl) hr0) hc0 h).mono ?_
  rintro e w' ⟨rfl, hd⟩
  exact ⟨rfl, hd⟩

end Go.Proofs.Ytklkcenffajfeaa.Q
