-- Printed for this claim by mp.py, a program of its prover, through the kit's print. Lean checks it.
import Derived.Test.YtklkcenffajfeaaQx0
import Derived.Test.YtklkcenffajfeaaQx1
namespace Go.Proofs.Ytklkcenffajfeaa.Q
open Go.RowKit Go.Proofs.YtklkcenffajfeaaW.PrintWords Go.Proofs.YtklkcenffajfeaaW.PrintLast Go.Proofs.YtklkcenffajfeaaW.PrintMore Go.Proofs.Ytklkcenffajfeaa.A
attribute [local go_sem] max2_int min2_int max_two min_two max_three min_three max_four min_four   -- for this text's walks alone
set_option linter.unusedVariables false
set_option linter.unusedSimpArgs false

/-! ### culletlaw15_WalshGrows: function 10 -/
mutual
def culletlaw15_WalshGrows.j0 : Nat → List Int → Int → Int → Bool → Option (Bool)
  | 0, _, _, _, _ => none
  | k + 1, x0, x1, x2, x43 => if x43 = true then (some true) else ((culletlaw15_copiedInts.f k x0).bind fun t131 => ((walsh_Products.f t131 x1).bind fun bt134 => (if bt134.2 = 0 then (culletlaw15_WalshGrows.l0 k x0 x1 x2 bt134.1 ([] : List Int) x0 (x0.length : Int) 0) else (some true))))
def culletlaw15_WalshGrows.l0 : Nat → List Int → Int → Int → List Int → List Int → List Int → Int → Int → Option (Bool)
  | 0, _, _, _, _, _, _, _, _ => none
  | k + 1, x0, x1, x2, x7, x9, x53, x54, x55 => if x55 < x54 then (if 0 ≤ x55 then (if x55 < (x53.length : Int) then (if (rd x53 x55) = x2 then (some true) else (if (rd x53 x55) > x2 then (if x55 = 0 then (if x9.length < 17592186044416 then ((some (x9 ++ [x2] : List Int)).bind fun y139 => (if y139.length < 17592186044416 then (culletlaw15_WalshGrows.l0 k x0 x1 x2 x7 (y139 ++ [rd x53 x55]) x53 x54 (wrap64 (x55 + 1))) else (none))) else (none)) else (if 0 ≤ (wrap64 (x55 - 1)) then (if (wrap64 (x55 - 1)) < (x0.length : Int) then (if (rd x0 (wrap64 (x55 - 1))) < x2 then (if x9.length < 17592186044416 then ((some (x9 ++ [x2] : List Int)).bind fun y146 => (if y146.length < 17592186044416 then (culletlaw15_WalshGrows.l0 k x0 x1 x2 x7 (y146 ++ [rd x53 x55]) x53 x54 (wrap64 (x55 + 1))) else (none))) else (none)) else (if x9.length < 17592186044416 then (culletlaw15_WalshGrows.l0 k x0 x1 x2 x7 (x9 ++ [rd x53 x55]) x53 x54 (wrap64 (x55 + 1))) else (none))) else (none)) else (none))) else (if x9.length < 17592186044416 then (culletlaw15_WalshGrows.l0 k x0 x1 x2 x7 (x9 ++ [rd x53 x55]) x53 x54 (wrap64 (x55 + 1))) else (none)))) else (none)) else (none)) else (if (x0.length : Int) = 0 then (culletlaw15_WalshGrows.j2 k x1 x2 x7 x9 true) else (if 0 ≤ (wrap64 ((x0.length : Int) - 1)) then (if (wrap64 ((x0.length : Int) - 1)) < (x0.length : Int) then (culletlaw15_WalshGrows.j2 k x1 x2 x7 x9 (decide ((rd x0 (wrap64 ((x0.length : Int) - 1))) < x2))) else (none)) else (none)))
def culletlaw15_WalshGrows.j2 : Nat → Int → Int → List Int → List Int → Bool → Option (Bool)
  | 0, _, _, _, _, _ => none
  | k + 1, x1, x2, x7, x9, x100 => if x100 = true then (if x9.length < 17592186044416 then (culletlaw15_WalshGrows.j3 k x1 x2 x7 (x9 ++ [x2])) else (none)) else (culletlaw15_WalshGrows.j3 k x1 x2 x7 x9)
def culletlaw15_WalshGrows.j3 : Nat → Int → Int → List Int → List Int → Option (Bool)
  | 0, _, _, _, _ => none
  | k + 1, x1, x2, x7, x9 => (walsh_Products.f x9 x1).bind fun bt162 => (if bt162.2 = 0 then (if 0 ≤ (IntKind.u64.wrap (x1)) then (if (x7.length : Int) = (shl .i64 1 (IntKind.u64.wrap (x1))) then (culletlaw15_WalshGrows.j4 k x1 x2 x7 bt162.1 ((bt162.1.length : Int) != (x7.length : Int))) else (culletlaw15_WalshGrows.j4 k x1 x2 x7 bt162.1 true)) else (none)) else (culletlaw15_WalshGrows.j4 k x1 x2 x7 bt162.1 true))
def culletlaw15_WalshGrows.j4 : Nat → Int → Int → List Int → List Int → Bool → Option (Bool)
  | 0, _, _, _, _, _ => none
  | k + 1, x1, x2, x7, x12, x127 => if x127 = true then (some false) else ((gf16_Element.f x2).bind fun bt166 => (culletlaw15_WalshGrows.l1 k x1 x2 x7 x12 bt166.1 (x7.length : Int) 0))
def culletlaw15_WalshGrows.l1 : Nat → Int → Int → List Int → List Int → Int → Int → Int → Option (Bool)
  | 0, _, _, _, _, _, _, _ => none
  | k + 1, x1, x2, x7, x12, x14, x134, x135 => if x135 < x134 then (if 0 ≤ x135 then (if x135 < (x7.length : Int) then (if x135 = x2 then (if x135 < (x12.length : Int) then (if (rd x12 x135) = (rd x7 x135) then (culletlaw15_WalshGrows.l1 k x1 x2 x7 x12 x14 x134 (wrap64 (x135 + 1))) else (some false)) else (none)) else ((gf16_Element.f x135).bind fun bt170 => ((gf16_Mul.f k (rd x7 x135) (Go.bits .xor .u16 bt170.1 x14)).bind fun t173 => (if x135 < (x12.length : Int) then (if (rd x12 x135) = t173 then (culletlaw15_WalshGrows.l1 k x1 x2 x7 x12 x14 x134 (wrap64 (x135 + 1))) else (some false)) else (none))))) else (none)) else (none)) else (culletlaw15_WalshGrows.l2 k x1 x7 ([] : List Int) (x7.length : Int) 0)
def culletlaw15_WalshGrows.l2 : Nat → Int → List Int → List Int → Int → Int → Option (Bool)
  | 0, _, _, _, _, _ => none
  | k + 1, x1, x7, x20, x166, x167 => if x167 < x166 then (if x20.length < 17592186044416 then (culletlaw15_WalshGrows.l2 k x1 x7 (x20 ++ [x167]) x166 (wrap64 (x167 + 1))) else (none)) else ((walsh_Products.f x20 x1).bind fun bt178 => (if bt178.2 = 0 then (culletlaw15_WalshGrows.j7 k bt178.1 ((bt178.1.length : Int) != (x7.length : Int))) else (culletlaw15_WalshGrows.j7 k bt178.1 true)))
def culletlaw15_WalshGrows.j7 : Nat → List Int → Bool → Option (Bool)
  | 0, _, _ => none
  | k + 1, x22, x189 => if x189 = true then (some false) else (culletlaw15_WalshGrows.l3 k x22 (x22.length : Int) 0)
def culletlaw15_WalshGrows.l3 : Nat → List Int → Int → Int → Option (Bool)
  | 0, _, _, _ => none
  | k + 1, x22, x191, x192 => if x192 < x191 then (if 0 ≤ x192 then (if x192 < (x22.length : Int) then (if (rd x22 x192) = 1 then (culletlaw15_WalshGrows.l3 k x22 x191 (wrap64 (x192 + 1))) else (some false)) else (none)) else (none)) else (some true)
end
def culletlaw15_WalshGrows.f (k : Nat) (l0 : List Int) (a1 : Int) (a2 : Int) : Option (Bool) := (culletlaw15_fixed.f k).bind fun t130 => (if t130 = true then (if a1 < 0 then (culletlaw15_WalshGrows.j0 k l0 a1 a2 true) else (if a1 > 16 then (culletlaw15_WalshGrows.j0 k l0 a1 a2 true) else (if a2 < 0 then (culletlaw15_WalshGrows.j0 k l0 a1 a2 true) else (if 0 ≤ (IntKind.u64.wrap (a1)) then (culletlaw15_WalshGrows.j0 k l0 a1 a2 (decide (a2 ≥ (shl .i64 1 (IntKind.u64.wrap (a1)))))) else (none))))) else (some false))
theorem culletlaw15_WalshGrows.mono_l : ∀ k, (∀ y0 y1 y2 y3, LeO (culletlaw15_WalshGrows.j0 k y0 y1 y2 y3) (culletlaw15_WalshGrows.j0 (k + 1) y0 y1 y2 y3)) ∧ (∀ y0 y1 y2 y3 y4 y5 y6 y7, LeO (culletlaw15_WalshGrows.l0 k y0 y1 y2 y3 y4 y5 y6 y7) (culletlaw15_WalshGrows.l0 (k + 1) y0 y1 y2 y3 y4 y5 y6 y7)) ∧ (∀ y0 y1 y2 y3 y4, LeO (culletlaw15_WalshGrows.j2 k y0 y1 y2 y3 y4) (culletlaw15_WalshGrows.j2 (k + 1) y0 y1 y2 y3 y4)) ∧ (∀ y0 y1 y2 y3, LeO (culletlaw15_WalshGrows.j3 k y0 y1 y2 y3) (culletlaw15_WalshGrows.j3 (k + 1) y0 y1 y2 y3)) ∧ (∀ y0 y1 y2 y3 y4, LeO (culletlaw15_WalshGrows.j4 k y0 y1 y2 y3 y4) (culletlaw15_WalshGrows.j4 (k + 1) y0 y1 y2 y3 y4)) ∧ (∀ y0 y1 y2 y3 y4 y5 y6, LeO (culletlaw15_WalshGrows.l1 k y0 y1 y2 y3 y4 y5 y6) (culletlaw15_WalshGrows.l1 (k + 1) y0 y1 y2 y3 y4 y5 y6)) ∧ (∀ y0 y1 y2 y3 y4, LeO (culletlaw15_WalshGrows.l2 k y0 y1 y2 y3 y4) (culletlaw15_WalshGrows.l2 (k + 1) y0 y1 y2 y3 y4)) ∧ (∀ y0 y1, LeO (culletlaw15_WalshGrows.j7 k y0 y1) (culletlaw15_WalshGrows.j7 (k + 1) y0 y1)) ∧ (∀ y0 y1 y2, LeO (culletlaw15_WalshGrows.l3 k y0 y1 y2) (culletlaw15_WalshGrows.l3 (k + 1) y0 y1 y2))
  | 0 => ⟨fun _ _ _ _ r h => by simp [culletlaw15_WalshGrows.j0] at h, fun _ _ _ _ _ _ _ _ r h => by simp [culletlaw15_WalshGrows.l0] at h, fun _ _ _ _ _ r h => by simp [culletlaw15_WalshGrows.j2] at h, fun _ _ _ _ r h => by simp [culletlaw15_WalshGrows.j3] at h, fun _ _ _ _ _ r h => by simp [culletlaw15_WalshGrows.j4] at h, fun _ _ _ _ _ _ _ r h => by simp [culletlaw15_WalshGrows.l1] at h, fun _ _ _ _ _ r h => by simp [culletlaw15_WalshGrows.l2] at h, fun _ _ r h => by simp [culletlaw15_WalshGrows.j7] at h, fun _ _ _ r h => by simp [culletlaw15_WalshGrows.l3] at h⟩
  | k + 1 => by
    obtain ⟨ih0, ih1, ih2, ih3, ih4, ih5, ih6, ih7, ih8⟩ := culletlaw15_WalshGrows.mono_l k
    refine ⟨?_, ?_, ?_, ?_, ?_, ?_, ?_, ?_, ?_⟩
    · intro y0 y1 y2 y3
      unfold culletlaw15_WalshGrows.j0
      repeat' first
      | (with_reducible exact ih0 _ _ _ _)
      | (with_reducible exact ih1 _ _ _ _ _ _ _ _)
      | (with_reducible exact ih2 _ _ _ _ _)
      | (with_reducible exact ih3 _ _ _ _)
      | (with_reducible exact ih4 _ _ _ _ _)
      | (with_reducible exact ih5 _ _ _ _ _ _ _)
      | (with_reducible exact ih6 _ _ _ _ _)
      | (with_reducible exact ih7 _ _)
      | (with_reducible exact ih8 _ _ _)
      | (with_reducible exact culletlaw15_copiedInts.mono _ _)
      | (with_reducible exact culletlaw15_fixed.mono _)
      | (with_reducible exact gf16_Mul.mono _ _ _)
      | (with_reducible exact LeO.refl _)
      | (with_reducible exact LeO.none _)
      | (with_reducible refine LeO.ite ?_ ?_)
      | (with_reducible refine LeO.bind ?_ (fun _ => ?_))
      | exact ih0 _ _ _ _
      | exact ih1 _ _ _ _ _ _ _ _
      | exact ih2 _ _ _ _ _
      | exact ih3 _ _ _ _
      | exact ih4 _ _ _ _ _
      | exact ih5 _ _ _ _ _ _ _
      | exact ih6 _ _ _ _ _
      | exact ih7 _ _
      | exact ih8 _ _ _
      | exact culletlaw15_copiedInts.mono _ _
      | exact culletlaw15_fixed.mono _
      | exact gf16_Mul.mono _ _ _
      | exact LeO.none _
      | refine LeO.ite ?_ ?_
      | refine LeO.bind ?_ (fun _ => ?_)
    · intro y0 y1 y2 y3 y4 y5 y6 y7
      unfold culletlaw15_WalshGrows.l0
      repeat' first
      | (with_reducible exact ih0 _ _ _ _)
      | (with_reducible exact ih1 _ _ _ _ _ _ _ _)
      | (with_reducible exact ih2 _ _ _ _ _)
      | (with_reducible exact ih3 _ _ _ _)
      | (with_reducible exact ih4 _ _ _ _ _)
      | (with_reducible exact ih5 _ _ _ _ _ _ _)
      | (with_reducible exact ih6 _ _ _ _ _)
      | (with_reducible exact ih7 _ _)
      | (with_reducible exact ih8 _ _ _)
      | (with_reducible exact culletlaw15_copiedInts.mono _ _)
      | (with_reducible exact culletlaw15_fixed.mono _)
      | (with_reducible exact gf16_Mul.mono _ _ _)
      | (with_reducible exact LeO.refl _)
      | (with_reducible exact LeO.none _)
      | (with_reducible refine LeO.ite ?_ ?_)
      | (with_reducible refine LeO.bind ?_ (fun _ => ?_))
      | exact ih0 _ _ _ _
      | exact ih1 _ _ _ _ _ _ _ _
      | exact ih2 _ _ _ _ _
      | exact ih3 _ _ _ _
      | exact ih4 _ _ _ _ _
      | exact ih5 _ _ _ _ _ _ _
      | exact ih6 _ _ _ _ _
      | exact ih7 _ _
      | exact ih8 _ _ _
      | exact culletlaw15_copiedInts.mono _ _
      | exact culletlaw15_fixed.mono _
      | exact gf16_Mul.mono _ _ _
      | exact LeO.none _
      | refine LeO.ite ?_ ?_
      | refine LeO.bind ?_ (fun _ => ?_)
    · intro y0 y1 y2 y3 y4
      unfold culletlaw15_WalshGrows.j2
      repeat' first
      | (with_reducible exact ih0 _ _ _ _)
      | (with_reducible exact ih1 _ _ _ _ _ _ _ _)
      | (with_reducible exact ih2 _ _ _ _ _)
      | (with_reducible exact ih3 _ _ _ _)
      | (with_reducible exact ih4 _ _ _ _ _)
      | (with_reducible exact ih5 _ _ _ _ _ _ _)
      | (with_reducible exact ih6 _ _ _ _ _)
      | (with_reducible exact ih7 _ _)
      | (with_reducible exact ih8 _ _ _)
      | (with_reducible exact culletlaw15_copiedInts.mono _ _)
      | (with_reducible exact culletlaw15_fixed.mono _)
      | (with_reducible exact gf16_Mul.mono _ _ _)
      | (with_reducible exact LeO.refl _)
      | (with_reducible exact LeO.none _)
      | (with_reducible refine LeO.ite ?_ ?_)
      | (with_reducible refine LeO.bind ?_ (fun _ => ?_))
      | exact ih0 _ _ _ _
      | exact ih1 _ _ _ _ _ _ _ _
      | exact ih2 _ _ _ _ _
      | exact ih3 _ _ _ _
      | exact ih4 _ _ _ _ _
      | exact ih5 _ _ _ _ _ _ _
      | exact ih6 _ _ _ _ _
      | exact ih7 _ _
      | exact ih8 _ _ _
      | exact culletlaw15_copiedInts.mono _ _
      | exact culletlaw15_fixed.mono _
      | exact gf16_Mul.mono _ _ _
      | exact LeO.none _
      | refine LeO.ite ?_ ?_
      | refine LeO.bind ?_ (fun _ => ?_)
    · intro y0 y1 y2 y3
      unfold culletlaw15_WalshGrows.j3
      repeat' first
      | (with_reducible exact ih0 _ _ _ _)
      | (with_reducible exact ih1 _ _ _ _ _ _ _ _)
      | (with_reducible exact ih2 _ _ _ _ _)
      | (with_reducible exact ih3 _ _ _ _)
      | (with_reducible exact ih4 _ _ _ _ _)
      | (with_reducible exact ih5 _ _ _ _ _ _ _)
      | (with_reducible exact ih6 _ _ _ _ _)
      | (with_reducible exact ih7 _ _)
      | (with_reducible exact ih8 _ _ _)
      | (with_reducible exact culletlaw15_copiedInts.mono _ _)
      | (with_reducible exact culletlaw15_fixed.mono _)
      | (with_reducible exact gf16_Mul.mono _ _ _)
      | (with_reducible exact LeO.refl _)
      | (with_reducible exact LeO.none _)
      | (with_reducible refine LeO.ite ?_ ?_)
      | (with_reducible refine LeO.bind ?_ (fun _ => ?_))
      | exact ih0 _ _ _ _
      | exact ih1 _ _ _ _ _ _ _ _
      | exact ih2 _ _ _ _ _
      | exact ih3 _ _ _ _
      | exact ih4 _ _ _ _ _
      | exact ih5 _ _ _ _ _ _ _
      | exact ih6 _ _ _ _ _
      | exact ih7 _ _
      | exact ih8 _ _ _
      | exact culletlaw15_copiedInts.mono _ _
      | exact culletlaw15_fixed.mono _
      | exact gf16_Mul.mono _ _ _
      | exact LeO.none _
      | refine LeO.ite ?_ ?_
      | refine LeO.bind ?_ (fun _ => ?_)
    · intro y0 y1 y2 y3 y4
      unfold culletlaw15_WalshGrows.j4
      repeat' first
      | (with_reducible exact ih0 _ _ _ _)
      | (with_reducible exact ih1 _ _ _ _ _ _ _ _)
      | (with_reducible exact ih2 _ _ _ _ _)
      | (with_reducible exact ih3 _ _ _ _)
      | (with_reducible exact ih4 _ _ _ _ _)
      | (with_reducible exact ih5 _ _ _ _ _ _ _)
      | (with_reducible exact ih6 _ _ _ _ _)
      | (with_reducible exact ih7 _ _)
      | (with_reducible exact ih8 _ _ _)
      | (with_reducible exact culletlaw15_copiedInts.mono _ _)
      | (with_reducible exact culletlaw15_fixed.mono _)
      | (with_reducible exact gf16_Mul.mono _ _ _)
      | (with_reducible exact LeO.refl _)
      | (with_reducible exact LeO.none _)
      | (with_reducible refine LeO.ite ?_ ?_)
      | (with_reducible refine LeO.bind ?_ (fun _ => ?_))
      | exact ih0 _ _ _ _
      | exact ih1 _ _ _ _ _ _ _ _
      | exact ih2 _ _ _ _ _
      | exact ih3 _ _ _ _
      | exact ih4 _ _ _ _ _
      | exact ih5 _ _ _ _ _ _ _
      | exact ih6 _ _ _ _ _
      | exact ih7 _ _
      | exact ih8 _ _ _
      | exact culletlaw15_copiedInts.mono _ _
      | exact culletlaw15_fixed.mono _
      | exact gf16_Mul.mono _ _ _
      | exact LeO.none _
      | refine LeO.ite ?_ ?_
      | refine LeO.bind ?_ (fun _ => ?_)
    · intro y0 y1 y2 y3 y4 y5 y6
      unfold culletlaw15_WalshGrows.l1
      repeat' first
      | (with_reducible exact ih0 _ _ _ _)
      | (with_reducible exact ih1 _ _ _ _ _ _ _ _)
      | (with_reducible exact ih2 _ _ _ _ _)
      | (with_reducible exact ih3 _ _ _ _)
      | (with_reducible exact ih4 _ _ _ _ _)
      | (with_reducible exact ih5 _ _ _ _ _ _ _)
      | (with_reducible exact ih6 _ _ _ _ _)
      | (with_reducible exact ih7 _ _)
      | (with_reducible exact ih8 _ _ _)
      | (with_reducible exact culletlaw15_copiedInts.mono _ _)
      | (with_reducible exact culletlaw15_fixed.mono _)
      | (with_reducible exact gf16_Mul.mono _ _ _)
      | (with_reducible exact LeO.refl _)
      | (with_reducible exact LeO.none _)
      | (with_reducible refine LeO.ite ?_ ?_)
      | (with_reducible refine LeO.bind ?_ (fun _ => ?_))
      | exact ih0 _ _ _ _
      | exact ih1 _ _ _ _ _ _ _ _
      | exact ih2 _ _ _ _ _
      | exact ih3 _ _ _ _
      | exact ih4 _ _ _ _ _
      | exact ih5 _ _ _ _ _ _ _
      | exact ih6 _ _ _ _ _
      | exact ih7 _ _
      | exact ih8 _ _ _
      | exact culletlaw15_copiedInts.mono _ _
      | exact culletlaw15_fixed.mono _
      | exact gf16_Mul.mono _ _ _
      | exact LeO.none _
      | refine LeO.ite ?_ ?_
      | refine LeO.bind ?_ (fun _ => ?_)
    · intro y0 y1 y2 y3 y4
      unfold culletlaw15_WalshGrows.l2
      repeat' first
      | (with_reducible exact ih0 _ _ _ _)
      | (with_reducible exact ih1 _ _ _ _ _ _ _ _)
      | (with_reducible exact ih2 _ _ _ _ _)
      | (with_reducible exact ih3 _ _ _ _)
      | (with_reducible exact ih4 _ _ _ _ _)
      | (with_reducible exact ih5 _ _ _ _ _ _ _)
      | (with_reducible exact ih6 _ _ _ _ _)
      | (with_reducible exact ih7 _ _)
      | (with_reducible exact ih8 _ _ _)
      | (with_reducible exact culletlaw15_copiedInts.mono _ _)
      | (with_reducible exact culletlaw15_fixed.mono _)
      | (with_reducible exact gf16_Mul.mono _ _ _)
      | (with_reducible exact LeO.refl _)
      | (with_reducible exact LeO.none _)
      | (with_reducible refine LeO.ite ?_ ?_)
      | (with_reducible refine LeO.bind ?_ (fun _ => ?_))
      | exact ih0 _ _ _ _
      | exact ih1 _ _ _ _ _ _ _ _
      | exact ih2 _ _ _ _ _
      | exact ih3 _ _ _ _
      | exact ih4 _ _ _ _ _
      | exact ih5 _ _ _ _ _ _ _
      | exact ih6 _ _ _ _ _
      | exact ih7 _ _
      | exact ih8 _ _ _
      | exact culletlaw15_copiedInts.mono _ _
      | exact culletlaw15_fixed.mono _
      | exact gf16_Mul.mono _ _ _
      | exact LeO.none _
      | refine LeO.ite ?_ ?_
      | refine LeO.bind ?_ (fun _ => ?_)
    · intro y0 y1
      unfold culletlaw15_WalshGrows.j7
      repeat' first
      | (with_reducible exact ih0 _ _ _ _)
      | (with_reducible exact ih1 _ _ _ _ _ _ _ _)
      | (with_reducible exact ih2 _ _ _ _ _)
      | (with_reducible exact ih3 _ _ _ _)
      | (with_reducible exact ih4 _ _ _ _ _)
      | (with_reducible exact ih5 _ _ _ _ _ _ _)
      | (with_reducible exact ih6 _ _ _ _ _)
      | (with_reducible exact ih7 _ _)
      | (with_reducible exact ih8 _ _ _)
      | (with_reducible exact culletlaw15_copiedInts.mono _ _)
      | (with_reducible exact culletlaw15_fixed.mono _)
      | (with_reducible exact gf16_Mul.mono _ _ _)
      | (with_reducible exact LeO.refl _)
      | (with_reducible exact LeO.none _)
      | (with_reducible refine LeO.ite ?_ ?_)
      | (with_reducible refine LeO.bind ?_ (fun _ => ?_))
      | exact ih0 _ _ _ _
      | exact ih1 _ _ _ _ _ _ _ _
      | exact ih2 _ _ _ _ _
      | exact ih3 _ _ _ _
      | exact ih4 _ _ _ _ _
      | exact ih5 _ _ _ _ _ _ _
      | exact ih6 _ _ _ _ _
      | exact ih7 _ _
      | exact ih8 _ _ _
      | exact culletlaw15_copiedInts.mono _ _
      | exact culletlaw15_fixed.mono _
      | exact gf16_Mul.mono _ _ _
      | exact LeO.none _
      | refine LeO.ite ?_ ?_
      | refine LeO.bind ?_ (fun _ => ?_)
    · intro y0 y1 y2
      unfold culletlaw15_WalshGrows.l3
      repeat' first
      | (with_reducible exact ih0 _ _ _ _)
      | (with_reducible exact ih1 _ _ _ _ _ _ _ _)
      | (with_reducible exact ih2 _ _ _ _ _)
      | (with_reducible exact ih3 _ _ _ _)
      | (with_reducible exact ih4 _ _ _ _ _)
      | (with_reducible exact ih5 _ _ _ _ _ _ _)
      | (with_reducible exact ih6 _ _ _ _ _)
      | (with_reducible exact ih7 _ _)
      | (with_reducible exact ih8 _ _ _)
      | (with_reducible exact culletlaw15_copiedInts.mono _ _)
      | (with_reducible exact culletlaw15_fixed.mono _)
      | (with_reducible exact gf16_Mul.mono _ _ _)
      | (with_reducible exact LeO.refl _)
      | (with_reducible exact LeO.none _)
      | (with_reducible refine LeO.ite ?_ ?_)
      | (with_reducible refine LeO.bind ?_ (fun _ => ?_))
      | exact ih0 _ _ _ _
      | exact ih1 _ _ _ _ _ _ _ _
      | exact ih2 _ _ _ _ _
      | exact ih3 _ _ _ _
      | exact ih4 _ _ _ _ _
      | exact ih5 _ _ _ _ _ _ _
      | exact ih6 _ _ _ _ _
      | exact ih7 _ _
      | exact ih8 _ _ _
      | exact culletlaw15_copiedInts.mono _ _
      | exact culletlaw15_fixed.mono _
      | exact gf16_Mul.mono _ _ _
      | exact LeO.none _
      | refine LeO.ite ?_ ?_
      | refine LeO.bind ?_ (fun _ => ?_)
theorem culletlaw15_WalshGrows.mono : ∀ a0 a1 a2 k, LeO (culletlaw15_WalshGrows.f k a0 a1 a2) (culletlaw15_WalshGrows.f (k + 1) a0 a1 a2) := by
  intro a0 a1 a2 k
  obtain ⟨ih0, ih1, ih2, ih3, ih4, ih5, ih6, ih7, ih8⟩ := culletlaw15_WalshGrows.mono_l k
  unfold culletlaw15_WalshGrows.f
  repeat' first
      | (with_reducible exact ih0 _ _ _ _)
      | (with_reducible exact ih1 _ _ _ _ _ _ _ _)
      | (with_reducible exact ih2 _ _ _ _ _)
      | (with_reducible exact ih3 _ _ _ _)
      | (with_reducible exact ih4 _ _ _ _ _)
      | (with_reducible exact ih5 _ _ _ _ _ _ _)
      | (with_reducible exact ih6 _ _ _ _ _)
      | (with_reducible exact ih7 _ _)
      | (with_reducible exact ih8 _ _ _)
      | (with_reducible exact culletlaw15_copiedInts.mono _ _)
      | (with_reducible exact culletlaw15_fixed.mono _)
      | (with_reducible exact gf16_Mul.mono _ _ _)
      | (with_reducible exact LeO.refl _)
      | (with_reducible exact LeO.none _)
      | (with_reducible refine LeO.ite ?_ ?_)
      | (with_reducible refine LeO.bind ?_ (fun _ => ?_))
      | exact ih0 _ _ _ _
      | exact ih1 _ _ _ _ _ _ _ _
      | exact ih2 _ _ _ _ _
      | exact ih3 _ _ _ _
      | exact ih4 _ _ _ _ _
      | exact ih5 _ _ _ _ _ _ _
      | exact ih6 _ _ _ _ _
      | exact ih7 _ _
      | exact ih8 _ _ _
      | exact culletlaw15_copiedInts.mono _ _
      | exact culletlaw15_fixed.mono _
      | exact gf16_Mul.mono _ _ _
      | exact LeO.none _
      | refine LeO.ite ?_ ?_
      | refine LeO.bind ?_ (fun _ => ?_)
set_option maxHeartbeats 8000000 in
set_option maxRecDepth 100000 in
theorem culletlaw15_WalshGrows.calls (k : Nat) (A0 : Option Addr) (c0 : Nat) (l0 : List Int) (a1 : Int) (a2 : Int) (r : Bool) (w : World) (hr0 : Kd.C (Kd.int .i64) w A0 l0.length l0) (hc0 : l0.length ≤ c0) (h : culletlaw15_WalshGrows.f k l0 a1 a2 = some r) :
    Calls Try.prog 10 #[.slice A0 l0.length c0, .int .i64 a1, .int .i64 a2] w fun e w' => e = .returned (.bool r) ∧ Below w.heap.size w w' := by
  have HR0 := Aside0.mk hr0
  have HC0 := Aside0.mk hc0
  clear hr0 hc0
  have HB := Aside0.mk (Below.refl w.heap.size w)
  have H : ((culletlaw15_fixed.f k).bind fun t130 => (if t130 = true then (if a1 < 0 then (culletlaw15_WalshGrows.j0 k l0 a1 a2 true) else (if a1 > 16 then (culletlaw15_WalshGrows.j0 k l0 a1 a2 true) else (if a2 < 0 then (culletlaw15_WalshGrows.j0 k l0 a1 a2 true) else (if 0 ≤ (IntKind.u64.wrap (a1)) then (culletlaw15_WalshGrows.j0 k l0 a1 a2 (decide (a2 ≥ (shl .i64 1 (IntKind.u64.wrap (a1)))))) else (none))))) else (some false))) = some r := h
  clear h
  replace H := Option.bind_eq_some_iff.mp H
  obtain ⟨t130, A40, H⟩ := H
  replace H : (if t130 = true then (if a1 < 0 then (culletlaw15_WalshGrows.j0 k l0 a1 a2 true) else (if a1 > 16 then (culletlaw15_WalshGrows.j0 k l0 a1 a2 true) else (if a2 < 0 then (culletlaw15_WalshGrows.j0 k l0 a1 a2 true) else (if 0 ≤ (IntKind.u64.wrap (a1)) then (culletlaw15_WalshGrows.j0 k l0 a1 a2 (decide (a2 ≥ (shl .i64 1 (IntKind.u64.wrap (a1)))))) else (none))))) else (some false)) = some r := H
  have A4 := Aside0.mk A40
  clear A40
  by_cases c5 : t130 = true
  · subst c5
    have H1 : (if a1 < 0 then (culletlaw15_WalshGrows.j0 k l0 a1 a2 true) else (if a1 > 16 then (culletlaw15_WalshGrows.j0 k l0 a1 a2 true) else (if a2 < 0 then (culletlaw15_WalshGrows.j0 k l0 a1 a2 true) else (if 0 ≤ (IntKind.u64.wrap (a1)) then (culletlaw15_WalshGrows.j0 k l0 a1 a2 (decide (a2 ≥ (shl .i64 1 (IntKind.u64.wrap (a1)))))) else (none))))) = some r := by rw [if_pos rfl] at H; exact H
    clear H
    have H := H1
    clear H1
    have HC6 := Aside0.mk H
    clear H
    go_enter Try.func10, Try.ntmps10
    go_upto_region 3 with (first | ((with_reducible refine gate_callee (f := 11) rfl ?_); refine goesL_ (some 25) rfl rfl Try.func11 (by kernel_rfl) rfl #[] rfl (by (try simp only [List.map_toArray, List.map_cons, List.map_nil]); first | done | rfl | (simp only [tb_wrap8]; done) | (simp only [tb_wrap8]; rfl) | (simp only [List.length_drop, List.length_take]; rfl)) ?_; (with_reducible refine (culletlaw15_fixed.calls k  true _ A4.out).mono ?_); rintro e w7 ⟨rfl, hb⟩; refine ⟨_, rfl, ?_⟩; have n0_ := Aside0.mk (below_step (by repeat (first | (with_reducible first | exact HB.out | apply below_alloc | apply pw_below_drewN | apply below_drew1) | exact HB.out)) hb); clear HB; have HB := n0_; clear n0_; (try clear hb); (try clear hb2); (try clear hk); (try clear hi)))
    (try simp only [Act.put, List.setIfInBounds_toArray, List.set_cons_zero, List.set_cons_succ])
    go_cut [43] (fun v43 wc => ∃ (kq : Nat) (x43_5 : Bool), v43 = .bool x43_5 ∧ Aside0 (culletlaw15_WalshGrows.j0 kq l0 a1 a2 x43_5 = some r) ∧ Aside0 (kq ≤ k) ∧ Aside0 (Below w.heap.size w wc))
    case first => as_aux_lemma =>
      have H := HC6.out
      clear HC6
      by_cases c8 : a1 < 0
      · rw [if_pos c8] at H
        have c8b0 : decide (a1 < 0) = true := decide_eq_true c8
        clear c8
        (first | rw [c8b0] | (simp only [i64_w, i32_w]; rw [c8b0]) | skip)
        have H' := Aside0.mk H
        clear H
        go_wp2
        go_meet
        case rel => exact ⟨_, (true), (by first | rfl | (simp; done) | (simp [*]; done)), H', ⟨by first | omega | exact Nat.le_refl _⟩, ⟨by repeat (first | (with_reducible first | exact HB.out | apply below_alloc | apply pw_below_drewN | apply below_drew1) | exact HB.out)⟩⟩
      · rw [if_neg c8] at H
        have c8b0 : decide (a1 < 0) = false := decide_eq_false c8
        clear c8
        (first | rw [c8b0] | (simp only [i64_w, i32_w]; rw [c8b0]) | skip)
        by_cases c9 : a1 > 16
        · rw [if_pos c9] at H
          have c9b0 : decide (16 < a1) = true := decide_eq_true c9
          clear c9
          have H' := Aside0.mk H
          clear H
          go_wp2
          go_meet
          case rel => exact ⟨_, (true), (by first | rfl | (simp; done) | (simp [*]; done)), H', ⟨by first | omega | exact Nat.le_refl _⟩, ⟨by repeat (first | (with_reducible first | exact HB.out | apply below_alloc | apply pw_below_drewN | apply below_drew1) | exact HB.out)⟩⟩
        · rw [if_neg c9] at H
          have c9b0 : decide (16 < a1) = false := decide_eq_false c9
          clear c9
          by_cases c10 : a2 < 0
          · rw [if_pos c10] at H
            have c10b0 : decide (a2 < 0) = true := decide_eq_true c10
            clear c10
            have H' := Aside0.mk H
            clear H
            go_wp2
            go_meet
            case rel => exact ⟨_, (true), (by first | rfl | (simp; done) | (simp [*]; done)), H', ⟨by first | omega | exact Nat.le_refl _⟩, ⟨by repeat (first | (with_reducible first | exact HB.out | apply below_alloc | apply pw_below_drewN | apply below_drew1) | exact HB.out)⟩⟩
          · rw [if_neg c10] at H
            have c10b0 : decide (a2 < 0) = false := decide_eq_false c10
            clear c10
            obtain ⟨ji11, hji11⟩ : ∃ j_ : Int, (IntKind.u64.wrap (a1)) = j_ := ⟨_, rfl⟩
            replace H : (if 0 ≤ (ji11) then (culletlaw15_WalshGrows.j0 k l0 a1 a2 (decide (a2 ≥ (shl .i64 1 (ji11))))) else (none)) = some r := by first | (rw [hji11] at H; exact H) | (simp only [hji11] at H ⊢; exact H)
            by_cases c12 : 0 ≤ (ji11)
            · rw [if_pos c12] at H
              have c12b0 := eq_true c12
              have c12b1 : decide (0 ≤ (ji11)) = true := decide_eq_true c12
              clear c12
              obtain ⟨ji13, hji13⟩ : ∃ j_ : Int, (shl .i64 1 (ji11)) = j_ := ⟨_, rfl⟩
              replace H : (culletlaw15_WalshGrows.j0 k l0 a1 a2 (decide (a2 ≥ (ji13)))) = some r := by first | (rw [hji13] at H; exact H) | (simp only [hji13] at H ⊢; exact H)
              have hji13_ : (IntKind.i64.wrap (1 * 2 ^ min (ji11).toNat 64)) = ji13 := hji13
              have hji13z : (ji11) ≤ 64 → (IntKind.i64.wrap (1 * 2 ^ (ji11).toNat)) = ji13 := shl_small hji13
              have hji13u : (IntKind.i64.wrap (2 ^ min (ji11).toNat 64)) = ji13 := by have h_ := hji13_; rw [Int.one_mul] at h_; exact h_
              have hji13v : (ji11) ≤ 64 → (IntKind.i64.wrap (2 ^ (ji11).toNat)) = ji13 := fun hle_ => by have h_ := hji13z hle_; rw [Int.one_mul] at h_; exact h_
              have hji13y : (wrap64 (1 * 2 ^ min (ji11).toNat 64)) = ji13 := (i64_w _).symm.trans hji13_
              have hji13x : (ji11) ≤ 64 → (wrap64 (1 * 2 ^ (ji11).toNat)) = ji13 := fun h_ => (i64_w _).symm.trans (hji13z h_)
              have H' := Aside0.mk H
              clear H
              go_wp2
              go_meet
              case rel => exact ⟨_, (decide (a2 ≥ (ji13))), (by first | rfl | (simp; done) | (simp only [← hji13] <;> (first | rfl | simp)) | (simp [*]; done)), H', ⟨by first | omega | exact Nat.le_refl _⟩, ⟨by repeat (first | (with_reducible first | exact HB.out | apply below_alloc | apply pw_below_drewN | apply below_drew1) | exact HB.out)⟩⟩
            · rw [if_neg c12] at H
              exact absurd H (by simp)
    case rest => as_aux_lemma =>
      clear HC6
      try clear c1
      try clear p2
      try clear c5
      try clear p6
      try clear c8
      try clear c8b0
      try clear p8
      try clear c9
      try clear c9b0
      try clear c10
      try clear c10b0
      try clear c11
      try clear c12
      try clear c12b0
      try clear c12b1
      obtain ⟨kq, x43_5, rfl, HA, HJ5, HB⟩ := hcut
      cases kq with
      | zero => exact absurd HA.out (by simp [culletlaw15_WalshGrows.j0])
      | succ kj5 =>
        have H := HA.out
        clear HA
        simp only [culletlaw15_WalshGrows.j0] at H
        by_cases c14 : x43_5 = true
        · subst c14
          have H1 : (some true) = some r := by rw [if_pos rfl] at H; exact H
          clear H
          have H := H1
          clear H1
          obtain rfl := Option.some.inj H
          go_wp2
          go_ret
          exact ⟨by first | rfl | (simp [errW_none, errW_some] <;> rfl) | (simp [*, errW_none, errW_some] <;> rfl), by repeat (first | (with_reducible first | exact HB.out | apply below_alloc | apply pw_below_drewN | apply below_drew1) | exact HB.out)⟩
        · replace c14 := Bool.eq_false_iff.mpr c14
          subst c14
          have H1 : ((culletlaw15_copiedInts.f kj5 l0).bind fun t131 => ((walsh_Products.f t131 a1).bind fun bt134 => (if bt134.2 = 0 then (culletlaw15_WalshGrows.l0 kj5 l0 a1 a2 bt134.1 ([] : List Int) l0 (l0.length : Int) 0) else (some true)))) = some r := by rw [if_neg (show ¬ (false = true) by decide)] at H; exact H
          clear H
          have H := H1
          clear H1
          replace H := Option.bind_eq_some_iff.mp H
          obtain ⟨t131, A150, H⟩ := H
          replace H : ((walsh_Products.f t131 a1).bind fun bt134 => (if bt134.2 = 0 then (culletlaw15_WalshGrows.l0 kj5 l0 a1 a2 bt134.1 ([] : List Int) l0 (l0.length : Int) 0) else (some true))) = some r := H
          have A15 := Aside0.mk A150
          clear A150
          replace H := Option.bind_eq_some_iff.mp H
          obtain ⟨⟨t134, t135⟩, A160, H⟩ := H
          replace H : (if t135 = 0 then (culletlaw15_WalshGrows.l0 kj5 l0 a1 a2 t134 ([] : List Int) l0 (l0.length : Int) 0) else (some true)) = some r := H
          have A16 := Aside0.mk A160
          clear A160
          by_cases c17 : t135 = 0
          · rw [if_pos c17] at H
            have c17b0 : (t135 == 0) = true := beq_iff_eq.mpr c17
            have c17b1 : (t135 != 0) = false := bne_eq_false_iff_eq.mpr c17
            clear c17
            have H' := Aside0.mk H
            clear H
            go_wp2_with (first | ((with_reducible refine gate_callee (f := 22) rfl ?_); refine goesL_ (some 46) rfl rfl Try.func22 (by kernel_rfl) rfl #[.slice A0 l0.length c0] rfl (by (try simp only [List.map_toArray, List.map_cons, List.map_nil]); first | done | rfl | (simp only [tb_wrap8]; done) | (simp only [tb_wrap8]; rfl) | (simp only [List.length_drop, List.length_take]; rfl)) ?_; (with_reducible refine (culletlaw15_copiedInts.calls kj5 _ _ l0 t131 _ ?side1 ?side2 A15.out).mono ?_); (case side1 => repeat (first | exact (Kd.C_below HR0.out HB.out) | (with_reducible refine Kd.C_alloc ?_ _) | (with_reducible refine Kd.C_drewN ?_ _) | (with_reducible refine Kd.C_drew ?_))); (case side2 => exact HC0.out); rintro e w18 ⟨v132, rfl, ho0, hb⟩; refine ⟨_, rfl, ?_⟩; have n0_ := Aside0.mk (Kd.R_lower ho0 (below_size (by repeat (first | (with_reducible first | exact HB.out | apply below_alloc | apply pw_below_drewN | apply below_drew1) | exact HB.out)))); have n1_ := Aside0.mk (below_step (by repeat (first | (with_reducible first | exact HB.out | apply below_alloc | apply pw_below_drewN | apply below_drew1) | exact HB.out)) hb); clear HB; have HO133 := n0_; have HB := n1_; clear n0_ n1_; (try clear hb); (try clear hb2); (try clear hk); (try clear hi); (try clear ho0); obtain ⟨Ao19, co19, eo19⟩ := Kd.R_slice HO133.out; subst eo19) | ((with_reducible refine gate_callee (f := 26) rfl ?_); refine goesL_ (some 48) rfl rfl Try.func26 (by kernel_rfl) rfl #[.slice Ao19 t131.length co19, .int .i64 a1] rfl (by (try simp only [List.map_toArray, List.map_cons, List.map_nil]); first | done | rfl | (simp only [tb_wrap8]; done) | (simp only [tb_wrap8]; rfl) | (simp only [List.length_drop, List.length_take]; rfl)) ?_; (with_reducible refine (walsh_Products.calls _ _ t131 a1 t134 t135 _ ?side1 ?side2 A16.out).mono ?_); (case side1 => repeat (first | exact (Kd.R_reads' HO133.out).2.2 | (with_reducible refine Kd.C_alloc ?_ _) | (with_reducible refine Kd.C_drewN ?_ _) | (with_reducible refine Kd.C_drew ?_))); (case side2 => exact (Kd.R_reads' HO133.out).2.1); rintro e w20 ⟨v136, rfl, ho0, hb⟩; refine ⟨_, rfl, ?_⟩; have n0_ := Aside0.mk (Kd.R_below (by (with_reducible repeat (first | apply Kd.R_alloc | apply Kd.R_drewN | apply Kd.R_drew)); exact HO133.out) hb); have n1_ := Aside0.mk (Kd.R_lower ho0 (below_size (by repeat (first | (with_reducible first | exact HB.out | apply below_alloc | apply pw_below_drewN | apply below_drew1) | exact HB.out)))); have n2_ := Aside0.mk (below_step (by repeat (first | (with_reducible first | exact HB.out | apply below_alloc | apply pw_below_drewN | apply below_drew1) | exact HB.out)) hb); clear HO133; clear HB; have HO133 := n0_; have HO137 := n1_; have HB := n2_; clear n0_ n1_ n2_; (try clear hb); (try clear hb2); (try clear hk); (try clear hi); (try clear ho0)))
            go_loopg [9, 55] kj5 (fun kq v9 v55 w' => ∃ (x9_2 : List Int) (x55_2 : Int), v55 = .int .i64 x55_2 ∧ Aside0 (culletlaw15_WalshGrows.l0 kq l0 a1 a2 t134 x9_2 l0 (l0.length : Int) x55_2 = some r) ∧ Aside0 (kq ≤ kj5) ∧ Aside0 (Kd.R (Kd.int .u16) 33 w' w.heap.size (fun _ => True) v136 t134) ∧ Aside0 (Kd.R (Kd.int .i64) 3 w' w.heap.size (fun _ => True) v9 x9_2) ∧ Aside0 (Below w.heap.size w w'))
            case atStart => exact ⟨(([] : List Int)), (0), (by first | rfl | (simp; done) | (simp [*]; done)), H', ⟨Nat.le_refl _⟩, ⟨by (with_reducible repeat (first | apply Kd.R_alloc | apply Kd.R_drewN | apply Kd.R_drew)); exact HO137.out⟩, ⟨by first | exact Kd.R_nil _ _ _ _ _ | exact Kd.N_nil _ _ _ _ _ | exact Kd.V_nil _ _ _ _ _ | exact Kd.Q_nil _ _ _ _ _ | exact Kd.S_nil _ _ _ _ _⟩, ⟨by repeat (first | (with_reducible first | exact HB.out | apply below_alloc | apply pw_below_drewN | apply below_drew1) | exact HB.out)⟩⟩
            case round =>
              clear H'
              try clear c1
              try clear c2
              try clear p2
              try clear c5
              try clear p6
              try clear c8
              try clear c8b0
              try clear p8
              try clear c9
              try clear c9b0
              try clear c10
              try clear c10b0
              try clear c11
              try clear c12
              try clear c12b0
              try clear c12b1
              try clear c14
              try clear c17
              try clear c17b0
              try clear c17b1
              try clear p2
              try clear p6
              try clear p8
              obtain ⟨x9_2, x55_2, rfl, HA, HK2, HO_7, HO_9, HB⟩ := hrel
              cases gk with
              | zero => exact absurd HA.out (by simp [culletlaw15_WalshGrows.l0])
              | succ k2 =>
                have H := HA.out
                clear HA
                simp only [culletlaw15_WalshGrows.l0] at H
                by_cases c21 : x55_2 < (l0.length : Int)
                · rw [if_pos c21] at H
                  have c21b0 : decide (x55_2 < (l0.length : Int)) = true := decide_eq_true c21
                  clear c21
                  by_cases c22 : 0 ≤ x55_2
                  · rw [if_pos c22] at H
                    have c22b0 : decide (0 ≤ x55_2) = true := decide_eq_true c22
                    clear c22
                    by_cases c23 : x55_2 < (l0.length : Int)
                    · rw [if_pos c23] at H
                      have c23b0 : decide (x55_2 < (l0.length : Int)) = true := decide_eq_true c23
                      clear c23
                      by_cases c24 : (rd l0 x55_2) = a2
                      · rw [if_pos c24] at H
                        have c24b0 : ((rd l0 x55_2) == a2) = true := beq_iff_eq.mpr c24
                        have c24b1 : ((rd l0 x55_2) != a2) = false := bne_eq_false_iff_eq.mpr c24
                        clear c24
                        obtain rfl := Option.some.inj H
                        have p138 : 0 ≤ (x55_2 : Int) := of_decide_eq_true (by first | (with_reducible assumption) | assumption)
                        have q138 : x55_2 < (l0.length : Int) := of_decide_eq_true (by first | (with_reducible assumption) | assumption)
                        obtain ⟨ad138, e138, hx138_0⟩ := Kd.at_int HR0.out x55_2 p138 q138
                        cases e138
                        replace hx138_0 := (HB.out.cell (World.block_lt_of_cell? w _ hx138_0)).trans hx138_0
                        replace p138 := eq_true p138
                        replace q138 := eq_true q138
                        go_wp2
                        go_ret
                        exact ⟨by first | rfl | (simp [errW_none, errW_some] <;> rfl) | (simp [*, errW_none, errW_some] <;> rfl), by repeat (first | (with_reducible first | exact HB.out | apply below_alloc | apply pw_below_drewN | apply below_drew1) | exact HB.out)⟩
                      · rw [if_neg c24] at H
                        have c24b0 : ((rd l0 x55_2) == a2) = false := beq_eq_false_iff_ne.mpr c24
                        have c24b1 : ((rd l0 x55_2) != a2) = true := bne_iff_ne.mpr c24
                        by_cases c25 : (rd l0 x55_2) > a2
                        · rw [if_pos c25] at H
                          have c25b0 : decide (a2 < (rd l0 x55_2)) = true := decide_eq_true c25
                          clear c25
                          by_cases c26 : x55_2 = 0
                          · rw [if_pos c26] at H
                            have c26b0 : (x55_2 == 0) = true := beq_iff_eq.mpr c26
                            have c26b1 : (x55_2 != 0) = false := bne_eq_false_iff_eq.mpr c26
                            clear c26
                            by_cases c27 : x9_2.length < 17592186044416
                            · rw [if_pos c27] at H
                              have LMc27 := Aside0.mk c27
                              clear c27
                              obtain ⟨y139, hy139⟩ : ∃ y_ : List Int, y_ = (x9_2 ++ [a2]) := ⟨_, rfl⟩
                              replace H : (if y139.length < 17592186044416 then (culletlaw15_WalshGrows.l0 k2 l0 a1 a2 t134 (y139 ++ [rd l0 x55_2]) l0 (l0.length : Int) (wrap64 (x55_2 + 1))) else (none)) = some r := by first | (rw [hy139]; with_reducible exact H) | (have H2_ := (Option.bind_some _ _).symm.trans H; rw [hy139]; with_reducible exact H2_) | (have H2_ := (Option.bind_some _ _).symm.trans H; with_reducible exact H2_) | with_reducible exact H | (rw [hy139]; exact H) | exact H
                              have Ny139 := Aside0.mk hy139
                              clear hy139
                              by_cases c28 : y139.length < 17592186044416
                              · rw [if_pos c28] at H
                                have LMc28 := Aside0.mk c28
                                clear c28
                                obtain ⟨y142, hy142⟩ : ∃ y_ : List Int, y_ = (y139 ++ [rd l0 x55_2]) := ⟨_, rfl⟩
                                replace H : (culletlaw15_WalshGrows.l0 k2 l0 a1 a2 t134 y142 l0 (l0.length : Int) (wrap64 (x55_2 + 1))) = some r := by first | (rw [hy142]; with_reducible exact H) | (have H2_ := (Option.bind_some _ _).symm.trans H; rw [hy142]; with_reducible exact H2_) | (have H2_ := (Option.bind_some _ _).symm.trans H; with_reducible exact H2_) | with_reducible exact H | (rw [hy142]; exact H) | exact H
                                have Ny142 := Aside0.mk hy142
                                clear hy142
                                have H' := Aside0.mk H
                                clear H
                                have p138 : 0 ≤ (x55_2 : Int) := of_decide_eq_true (by first | (with_reducible assumption) | assumption)
                                have q138 : x55_2 < (l0.length : Int) := of_decide_eq_true (by first | (with_reducible assumption) | assumption)
                                obtain ⟨ad138, e138, hx138_0⟩ := Kd.at_int HR0.out x55_2 p138 q138
                                cases e138
                                replace hx138_0 := (HB.out.cell (World.block_lt_of_cell? w _ hx138_0)).trans hx138_0
                                replace p138 := eq_true p138
                                replace q138 := eq_true q138
                                go_wp2_with (first | ((with_reducible refine gate_builtin (b := .append) (xs := #[.tmp 79, .tmp 81]) rfl ?_); (try (refine gate_guard (by rfl) ?_; dsimp only)); at_builtin; refine Kd.R_append (Kd.int .i64) (w0 := w) w.heap.size rfl (.tmp 79) (.tmp 81) 35 3 (.int .i64 0) 8 rfl Try.underlying35 info3 rfl (by decide) (by omega) u9 x9_2 a2 [.int .i64 a2] (fun _ => True) (fun _ => False) rfl rfl ?aP (fun _ hk => hk.elim) ?aF ?aO ?aB ?aS ?aL ?_; (case aP => exact rfl); (case aB => exact (by repeat (first | (with_reducible first | exact HB.out | apply below_alloc | apply pw_below_drewN | apply below_drew1) | exact HB.out))); (case aF => exact (fun _ _ => trivial)); (case aO => exact (by (with_reducible repeat (first | apply Kd.R_alloc | apply Kd.R_drewN | apply Kd.R_drew)); exact HO_9.out)); (case aS => exact (below_size (by repeat (first | (with_reducible first | exact HB.out | apply below_alloc | apply pw_below_drewN | apply below_drew1) | exact HB.out)))); (case aL => have := LMc27.out; omega); intro v140 w29 ho hb hg hat; rw [← Ny139.out] at ho; have n0_ := Aside0.mk (Kd.R_over' (by (with_reducible repeat (first | apply Kd.R_alloc | apply Kd.R_drewN | apply Kd.R_drew)); exact HO_7.out) (Kd.R_typed (by (with_reducible repeat (first | apply Kd.R_alloc | apply Kd.R_drewN | apply Kd.R_drew)); exact HO_9.out)) (by decide) hg); have n1_ := Aside0.mk (hb); have n2_ := Aside0.mk (ho); clear HO_7; clear HB; clear HO_9; have HO_7 := n0_; have HB := n1_; have HO141 := n2_; clear n0_ n1_ n2_; clear ho hb hg hat) | ((with_reducible refine gate_builtin (b := .append) (xs := #[.tmp 83, .tmp 85]) rfl ?_); (try (refine gate_guard (by rfl) ?_; dsimp only)); at_builtin; refine Kd.R_append (Kd.int .i64) (w0 := w) w.heap.size rfl (.tmp 83) (.tmp 85) 35 3 (.int .i64 0) 8 rfl Try.underlying35 info3 rfl (by decide) (by omega) v140 y139 (rd l0 x55_2) [.int .i64 (rd l0 x55_2)] (fun _ => True) (fun _ => False) rfl rfl ?aP (fun _ hk => hk.elim) ?aF ?aO ?aB ?aS ?aL ?_; (case aP => exact rfl); (case aB => exact (by repeat (first | (with_reducible first | exact HB.out | apply below_alloc | apply pw_below_drewN | apply below_drew1) | exact HB.out))); (case aF => exact (fun _ _ => trivial)); (case aO => exact (by (with_reducible repeat (first | apply Kd.R_alloc | apply Kd.R_drewN | apply Kd.R_drew)); exact HO141.out)); (case aS => exact (below_size (by repeat (first | (with_reducible first | exact HB.out | apply below_alloc | apply pw_below_drewN | apply below_drew1) | exact HB.out)))); (case aL => have := LMc28.out; omega); intro v143 w30 ho hb hg hat; rw [← Ny142.out] at ho; have n0_ := Aside0.mk (Kd.R_over' (by (with_reducible repeat (first | apply Kd.R_alloc | apply Kd.R_drewN | apply Kd.R_drew)); exact HO_7.out) (Kd.R_typed (by (with_reducible repeat (first | apply Kd.R_alloc | apply Kd.R_drewN | apply Kd.R_drew)); exact HO141.out)) (by decide) hg); have n1_ := Aside0.mk (hb); have n2_ := Aside0.mk (ho); clear HO_7; clear HB; clear HO141; have HO_7 := n0_; have HB := n1_; have HO144 := n2_; clear n0_ n1_ n2_; clear ho hb hg hat))
                                go_roundg k2
                                case measure => have := HJ5.out; have := HK2.out; omega
                                case rel => exact ⟨(y142), (wrap64 (x55_2 + 1)), (by first | rfl | (simp; done) | (simp [*]; done)), H', ⟨by have := HJ5.out; have := HK2.out; omega⟩, ⟨by (with_reducible repeat (first | apply Kd.R_alloc | apply Kd.R_drewN | apply Kd.R_drew)); exact HO_7.out⟩, ⟨by (with_reducible repeat (first | apply Kd.R_alloc | apply Kd.R_drewN | apply Kd.R_drew)); exact HO144.out⟩, ⟨by repeat (first | (with_reducible first | exact HB.out | apply below_alloc | apply pw_below_drewN | apply below_drew1) | exact HB.out)⟩⟩
                              · rw [if_neg c28] at H
                                exact absurd H (by simp)
                            · rw [if_neg c27] at H
                              exact absurd H (by simp)
                          · rw [if_neg c26] at H
                            have c26b0 : (x55_2 == 0) = false := beq_eq_false_iff_ne.mpr c26
                            have c26b1 : (x55_2 != 0) = true := bne_iff_ne.mpr c26
                            obtain ⟨ji31, hji31⟩ : ∃ j_ : Int, (wrap64 (x55_2 - 1)) = j_ := ⟨_, rfl⟩
                            replace H : (if 0 ≤ (ji31) then (if (ji31) < (l0.length : Int) then (if (rd l0 (ji31)) < a2 then (if x9_2.length < 17592186044416 then ((some (x9_2 ++ [a2] : List Int)).bind fun y146 => (if y146.length < 17592186044416 then (culletlaw15_WalshGrows.l0 k2 l0 a1 a2 t134 (y146 ++ [rd l0 x55_2]) l0 (l0.length : Int) (wrap64 (x55_2 + 1))) else (none))) else (none)) else (if x9_2.length < 17592186044416 then (culletlaw15_WalshGrows.l0 k2 l0 a1 a2 t134 (x9_2 ++ [rd l0 x55_2]) l0 (l0.length : Int) (wrap64 (x55_2 + 1))) else (none))) else (none)) else (none)) = some r := by first | (rw [hji31] at H; exact H) | (simp only [hji31] at H ⊢; exact H)
                            have hji31w : (IntKind.i64.wrap (x55_2 - 1)) = ji31 := (i64_w _).trans hji31
                            by_cases c32 : 0 ≤ (ji31)
                            · rw [if_pos c32] at H
                              have c32b0 : decide (0 ≤ (ji31)) = true := decide_eq_true c32
                              clear c32
                              by_cases c33 : (ji31) < (l0.length : Int)
                              · rw [if_pos c33] at H
                                have c33b0 : decide ((ji31) < (l0.length : Int)) = true := decide_eq_true c33
                                clear c33
                                by_cases c34 : (rd l0 (ji31)) < a2
                                · rw [if_pos c34] at H
                                  have c34b0 : decide ((rd l0 (ji31)) < a2) = true := decide_eq_true c34
                                  clear c34
                                  by_cases c35 : x9_2.length < 17592186044416
                                  · rw [if_pos c35] at H
                                    have LMc35 := Aside0.mk c35
                                    clear c35
                                    obtain ⟨y146, hy146⟩ : ∃ y_ : List Int, y_ = (x9_2 ++ [a2]) := ⟨_, rfl⟩
                                    replace H : (if y146.length < 17592186044416 then (culletlaw15_WalshGrows.l0 k2 l0 a1 a2 t134 (y146 ++ [rd l0 x55_2]) l0 (l0.length : Int) (wrap64 (x55_2 + 1))) else (none)) = some r := by first | (rw [hy146]; with_reducible exact H) | (have H2_ := (Option.bind_some _ _).symm.trans H; rw [hy146]; with_reducible exact H2_) | (have H2_ := (Option.bind_some _ _).symm.trans H; with_reducible exact H2_) | with_reducible exact H | (rw [hy146]; exact H) | exact H
                                    have Ny146 := Aside0.mk hy146
                                    clear hy146
                                    by_cases c36 : y146.length < 17592186044416
                                    · rw [if_pos c36] at H
                                      have LMc36 := Aside0.mk c36
                                      clear c36
                                      obtain ⟨y149, hy149⟩ : ∃ y_ : List Int, y_ = (y146 ++ [rd l0 x55_2]) := ⟨_, rfl⟩
                                      replace H : (culletlaw15_WalshGrows.l0 k2 l0 a1 a2 t134 y149 l0 (l0.length : Int) (wrap64 (x55_2 + 1))) = some r := by first | (rw [hy149]; with_reducible exact H) | (have H2_ := (Option.bind_some _ _).symm.trans H; rw [hy149]; with_reducible exact H2_) | (have H2_ := (Option.bind_some _ _).symm.trans H; with_reducible exact H2_) | with_reducible exact H | (rw [hy149]; exact H) | exact H
                                      have Ny149 := Aside0.mk hy149
                                      clear hy149
                                      have H' := Aside0.mk H
                                      clear H
                                      have p138 : 0 ≤ (x55_2 : Int) := of_decide_eq_true (by first | (with_reducible assumption) | assumption)
                                      have q138 : x55_2 < (l0.length : Int) := of_decide_eq_true (by first | (with_reducible assumption) | assumption)
                                      obtain ⟨ad138, e138, hx138_0⟩ := Kd.at_int HR0.out x55_2 p138 q138
                                      cases e138
                                      replace hx138_0 := (HB.out.cell (World.block_lt_of_cell? w _ hx138_0)).trans hx138_0
                                      replace p138 := eq_true p138
                                      replace q138 := eq_true q138
                                      have p145 : 0 ≤ ((ji31) : Int) := of_decide_eq_true (by first | (with_reducible assumption) | assumption)
                                      have q145 : (ji31) < (l0.length : Int) := of_decide_eq_true (by first | (with_reducible assumption) | assumption)
                                      obtain ⟨ad145, e145, hx145_0⟩ := Kd.at_int HR0.out (ji31) p145 q145
                                      obtain rfl : ad138 = ad145 := (by injection e145)
                                      replace hx145_0 := (HB.out.cell (World.block_lt_of_cell? w _ hx145_0)).trans hx145_0
                                      replace p145 := eq_true p145
                                      replace q145 := eq_true q145
                                      go_wp2_with (first | ((with_reducible refine gate_builtin (b := .append) (xs := #[.tmp 79, .tmp 81]) rfl ?_); (try (refine gate_guard (by rfl) ?_; dsimp only)); at_builtin; refine Kd.R_append (Kd.int .i64) (w0 := w) w.heap.size rfl (.tmp 79) (.tmp 81) 35 3 (.int .i64 0) 8 rfl Try.underlying35 info3 rfl (by decide) (by omega) u9 x9_2 a2 [.int .i64 a2] (fun _ => True) (fun _ => False) rfl rfl ?aP (fun _ hk => hk.elim) ?aF ?aO ?aB ?aS ?aL ?_; (case aP => exact rfl); (case aB => exact (by repeat (first | (with_reducible first | exact HB.out | apply below_alloc | apply pw_below_drewN | apply below_drew1) | exact HB.out))); (case aF => exact (fun _ _ => trivial)); (case aO => exact (by (with_reducible repeat (first | apply Kd.R_alloc | apply Kd.R_drewN | apply Kd.R_drew)); exact HO_9.out)); (case aS => exact (below_size (by repeat (first | (with_reducible first | exact HB.out | apply below_alloc | apply pw_below_drewN | apply below_drew1) | exact HB.out)))); (case aL => have := LMc35.out; omega); intro v147 w37 ho hb hg hat; rw [← Ny146.out] at ho; have n0_ := Aside0.mk (Kd.R_over' (by (with_reducible repeat (first | apply Kd.R_alloc | apply Kd.R_drewN | apply Kd.R_drew)); exact HO_7.out) (Kd.R_typed (by (with_reducible repeat (first | apply Kd.R_alloc | apply Kd.R_drewN | apply Kd.R_drew)); exact HO_9.out)) (by decide) hg); have n1_ := Aside0.mk (hb); have n2_ := Aside0.mk (ho); clear HO_7; clear HB; clear HO_9; have HO_7 := n0_; have HB := n1_; have HO148 := n2_; clear n0_ n1_ n2_; clear ho hb hg hat) | ((with_reducible refine gate_builtin (b := .append) (xs := #[.tmp 83, .tmp 85]) rfl ?_); (try (refine gate_guard (by rfl) ?_; dsimp only)); at_builtin; refine Kd.R_append (Kd.int .i64) (w0 := w) w.heap.size rfl (.tmp 83) (.tmp 85) 35 3 (.int .i64 0) 8 rfl Try.underlying35 info3 rfl (by decide) (by omega) v147 y146 (rd l0 x55_2) [.int .i64 (rd l0 x55_2)] (fun _ => True) (fun _ => False) rfl rfl ?aP (fun _ hk => hk.elim) ?aF ?aO ?aB ?aS ?aL ?_; (case aP => exact rfl); (case aB => exact (by repeat (first | (with_reducible first | exact HB.out | apply below_alloc | apply pw_below_drewN | apply below_drew1) | exact HB.out))); (case aF => exact (fun _ _ => trivial)); (case aO => exact (by (with_reducible repeat (first | apply Kd.R_alloc | apply Kd.R_drewN | apply Kd.R_drew)); exact HO148.out)); (case aS => exact (below_size (by repeat (first | (with_reducible first | exact HB.out | apply below_alloc | apply pw_below_drewN | apply below_drew1) | exact HB.out)))); (case aL => have := LMc36.out; omega); intro v150 w38 ho hb hg hat; rw [← Ny149.out] at ho; have n0_ := Aside0.mk (Kd.R_over' (by (with_reducible repeat (first | apply Kd.R_alloc | apply Kd.R_drewN | apply Kd.R_drew)); exact HO_7.out) (Kd.R_typed (by (with_reducible repeat (first | apply Kd.R_alloc | apply Kd.R_drewN | apply Kd.R_drew)); exact HO148.out)) (by decide) hg); have n1_ := Aside0.mk (hb); have n2_ := Aside0.mk (ho); clear HO_7; clear HB; clear HO148; have HO_7 := n0_; have HB := n1_; have HO151 := n2_; clear n0_ n1_ n2_; clear ho hb hg hat))
                                      go_roundg k2
                                      case measure => have := HJ5.out; have := HK2.out; omega
                                      case rel => exact ⟨(y149), (wrap64 (x55_2 + 1)), (by first | rfl | (simp; done) | (simp [*]; done)), H', ⟨by have := HJ5.out; have := HK2.out; omega⟩, ⟨by (with_reducible repeat (first | apply Kd.R_alloc | apply Kd.R_drewN | apply Kd.R_drew)); exact HO_7.out⟩, ⟨by (with_reducible repeat (first | apply Kd.R_alloc | apply Kd.R_drewN | apply Kd.R_drew)); exact HO151.out⟩, ⟨by repeat (first | (with_reducible first | exact HB.out | apply below_alloc | apply pw_below_drewN | apply below_drew1) | exact HB.out)⟩⟩
                                    · rw [if_neg c36] at H
                                      exact absurd H (by simp)
                                  · rw [if_neg c35] at H
                                    exact absurd H (by simp)
                                · rw [if_neg c34] at H
                                  have c34b0 : decide ((rd l0 (ji31)) < a2) = false := decide_eq_false c34
                                  clear c34
                                  by_cases c39 : x9_2.length < 17592186044416
                                  · rw [if_pos c39] at H
                                    have LMc39 := Aside0.mk c39
                                    clear c39
                                    obtain ⟨y152, hy152⟩ : ∃ y_ : List Int, y_ = (x9_2 ++ [rd l0 x55_2]) := ⟨_, rfl⟩
                                    replace H : (culletlaw15_WalshGrows.l0 k2 l0 a1 a2 t134 y152 l0 (l0.length : Int) (wrap64 (x55_2 + 1))) = some r := by first | (rw [hy152]; with_reducible exact H) | (have H2_ := (Option.bind_some _ _).symm.trans H; rw [hy152]; with_reducible exact H2_) | (have H2_ := (Option.bind_some _ _).symm.trans H; with_reducible exact H2_) | with_reducible exact H | (rw [hy152]; exact H) | exact H
                                    have Ny152 := Aside0.mk hy152
                                    clear hy152
                                    have H' := Aside0.mk H
                                    clear H
                                    have p138 : 0 ≤ (x55_2 : Int) := of_decide_eq_true (by first | (with_reducible assumption) | assumption)
                                    have q138 : x55_2 < (l0.length : Int) := of_decide_eq_true (by first | (with_reducible assumption) | assumption)
                                    obtain ⟨ad138, e138, hx138_0⟩ := Kd.at_int HR0.out x55_2 p138 q138
                                    cases e138
                                    replace hx138_0 := (HB.out.cell (World.block_lt_of_cell? w _ hx138_0)).trans hx138_0
                                    replace p138 := eq_true p138
                                    replace q138 := eq_true q138
                                    have p145 : 0 ≤ ((ji31) : Int) := of_decide_eq_true (by first | (with_reducible assumption) | assumption)
                                    have q145 : (ji31) < (l0.length : Int) := of_decide_eq_true (by first | (with_reducible assumption) | assumption)
                                    obtain ⟨ad145, e145, hx145_0⟩ := Kd.at_int HR0.out (ji31) p145 q145
                                    obtain rfl : ad138 = ad145 := (by injection e145)
                                    replace hx145_0 := (HB.out.cell (World.block_lt_of_cell? w _ hx145_0)).trans hx145_0
                                    replace p145 := eq_true p145
                                    replace q145 := eq_true q145
                                    go_wp2_with (first | ((with_reducible refine gate_builtin (b := .append) (xs := #[.tmp 83, .tmp 85]) rfl ?_); (try (refine gate_guard (by rfl) ?_; dsimp only)); at_builtin; refine Kd.R_append (Kd.int .i64) (w0 := w) w.heap.size rfl (.tmp 83) (.tmp 85) 35 3 (.int .i64 0) 8 rfl Try.underlying35 info3 rfl (by decide) (by omega) u9 x9_2 (rd l0 x55_2) [.int .i64 (rd l0 x55_2)] (fun _ => True) (fun _ => False) rfl rfl ?aP (fun _ hk => hk.elim) ?aF ?aO ?aB ?aS ?aL ?_; (case aP => exact rfl); (case aB => exact (by repeat (first | (with_reducible first | exact HB.out | apply below_alloc | apply pw_below_drewN | apply below_drew1) | exact HB.out))); (case aF => exact (fun _ _ => trivial)); (case aO => exact (by (with_reducible repeat (first | apply Kd.R_alloc | apply Kd.R_drewN | apply Kd.R_drew)); exact HO_9.out)); (case aS => exact (below_size (by repeat (first | (with_reducible first | exact HB.out | apply below_alloc | apply pw_below_drewN | apply below_drew1) | exact HB.out)))); (case aL => have := LMc39.out; omega); intro v153 w40 ho hb hg hat; rw [← Ny152.out] at ho; have n0_ := Aside0.mk (Kd.R_over' (by (with_reducible repeat (first | apply Kd.R_alloc | apply Kd.R_drewN | apply Kd.R_drew)); exact HO_7.out) (Kd.R_typed (by (with_reducible repeat (first | apply Kd.R_alloc | apply Kd.R_drewN | apply Kd.R_drew)); exact HO_9.out)) (by decide) hg); have n1_ := Aside0.mk (hb); have n2_ := Aside0.mk (ho); clear HO_7; clear HB; clear HO_9; have HO_7 := n0_; have HB := n1_; have HO154 := n2_; clear n0_ n1_ n2_; clear ho hb hg hat))
                                    go_roundg k2
                                    case measure => have := HJ5.out; have := HK2.out; omega
                                    case rel => exact ⟨(y152), (wrap64 (x55_2 + 1)), (by first | rfl | (simp; done) | (simp [*]; done)), H', ⟨by have := HJ5.out; have := HK2.out; omega⟩, ⟨by (with_reducible repeat (first | apply Kd.R_alloc | apply Kd.R_drewN | apply Kd.R_drew)); exact HO_7.out⟩, ⟨by (with_reducible repeat (first | apply Kd.R_alloc | apply Kd.R_drewN | apply Kd.R_drew)); exact HO154.out⟩, ⟨by repeat (first | (with_reducible first | exact HB.out | apply below_alloc | apply pw_below_drewN | apply below_drew1) | exact HB.out)⟩⟩
                                  · rw [if_neg c39] at H
                                    exact absurd H (by simp)
                              · rw [if_neg c33] at H
                                exact absurd H (by simp)
                            · rw [if_neg c32] at H
                              exact absurd H (by simp)
                        · rw [if_neg c25] at H
                          have c25b0 : decide (a2 < (rd l0 x55_2)) = false := decide_eq_false c25
                          clear c25
                          by_cases c41 : x9_2.length < 17592186044416
                          · rw [if_pos c41] at H
                            have LMc41 := Aside0.mk c41
                            clear c41
                            obtain ⟨y155, hy155⟩ : ∃ y_ : List Int, y_ = (x9_2 ++ [rd l0 x55_2]) := ⟨_, rfl⟩
                            replace H : (culletlaw15_WalshGrows.l0 k2 l0 a1 a2 t134 y155 l0 (l0.length : Int) (wrap64 (x55_2 + 1))) = some r := by first | (rw [hy155]; with_reducible exact H) | (have H2_ := (Option.bind_some _ _).symm.trans H; rw [hy155]; with_reducible exact H2_) | (have H2_ := (Option.bind_some _ _).symm.trans H; with_reducible exact H2_) | with_reducible exact H | (rw [hy155]; exact H) | exact H
                            have Ny155 := Aside0.mk hy155
                            clear hy155
                            have H' := Aside0.mk H
                            clear H
                            have p138 : 0 ≤ (x55_2 : Int) := of_decide_eq_true (by first | (with_reducible assumption) | assumption)
                            have q138 : x55_2 < (l0.length : Int) := of_decide_eq_true (by first | (with_reducible assumption) | assumption)
                            obtain ⟨ad138, e138, hx138_0⟩ := Kd.at_int HR0.out x55_2 p138 q138
                            cases e138
                            replace hx138_0 := (HB.out.cell (World.block_lt_of_cell? w _ hx138_0)).trans hx138_0
                            replace p138 := eq_true p138
                            replace q138 := eq_true q138
                            go_wp2_with (first | ((with_reducible refine gate_builtin (b := .append) (xs := #[.tmp 83, .tmp 85]) rfl ?_); (try (refine gate_guard (by rfl) ?_; dsimp only)); at_builtin; refine Kd.R_append (Kd.int .i64) (w0 := w) w.heap.size rfl (.tmp 83) (.tmp 85) 35 3 (.int .i64 0) 8 rfl Try.underlying35 info3 rfl (by decide) (by omega) u9 x9_2 (rd l0 x55_2) [.int .i64 (rd l0 x55_2)] (fun _ => True) (fun _ => False) rfl rfl ?aP (fun _ hk => hk.elim) ?aF ?aO ?aB ?aS ?aL ?_; (case aP => exact rfl); (case aB => exact (by repeat (first | (with_reducible first | exact HB.out | apply below_alloc | apply pw_below_drewN | apply below_drew1) | exact HB.out))); (case aF => exact (fun _ _ => trivial)); (case aO => exact (by (with_reducible repeat (first | apply Kd.R_alloc | apply Kd.R_drewN | apply Kd.R_drew)); exact HO_9.out)); (case aS => exact (below_size (by repeat (first | (with_reducible first | exact HB.out | apply below_alloc | apply pw_below_drewN | apply below_drew1) | exact HB.out)))); (case aL => have := LMc41.out; omega); intro v156 w42 ho hb hg hat; rw [← Ny155.out] at ho; have n0_ := Aside0.mk (Kd.R_over' (by (with_reducible repeat (first | apply Kd.R_alloc | apply Kd.R_drewN | apply Kd.R_drew)); exact HO_7.out) (Kd.R_typed (by (with_reducible repeat (first | apply Kd.R_alloc | apply Kd.R_drewN | apply Kd.R_drew)); exact HO_9.out)) (by decide) hg); have n1_ := Aside0.mk (hb); have n2_ := Aside0.mk (ho); clear HO_7; clear HB; clear HO_9; have HO_7 := n0_; have HB := n1_; have HO157 := n2_; clear n0_ n1_ n2_; clear ho hb hg hat))
                            go_roundg k2
                            case measure => have := HJ5.out; have := HK2.out; omega
                            case rel => exact ⟨(y155), (wrap64 (x55_2 + 1)), (by first | rfl | (simp; done) | (simp [*]; done)), H', ⟨by have := HJ5.out; have := HK2.out; omega⟩, ⟨by (with_reducible repeat (first | apply Kd.R_alloc | apply Kd.R_drewN | apply Kd.R_drew)); exact HO_7.out⟩, ⟨by (with_reducible repeat (first | apply Kd.R_alloc | apply Kd.R_drewN | apply Kd.R_drew)); exact HO157.out⟩, ⟨by repeat (first | (with_reducible first | exact HB.out | apply below_alloc | apply pw_below_drewN | apply below_drew1) | exact HB.out)⟩⟩
                          · rw [if_neg c41] at H
                            exact absurd H (by simp)
                    · rw [if_neg c23] at H
                      exact absurd H (by simp)
                  · rw [if_neg c22] at H
                    exact absurd H (by simp)
                · rw [if_neg c21] at H
                  have c21b0 : decide (x55_2 < (l0.length : Int)) = false := decide_eq_false c21
                  clear c21
                  have HC43 := Aside0.mk H
                  clear H
                  go_upto_region 18 with (fail)
                  go_cut [100] (fun v100 wc => ∃ (kq : Nat) (x100_42 : Bool), v100 = .bool x100_42 ∧ Aside0 (culletlaw15_WalshGrows.j2 kq a1 a2 t134 x9_2 x100_42 = some r) ∧ Aside0 (kq ≤ k2) ∧ Aside0 (Kd.R (Kd.int .u16) 33 wc w.heap.size (fun _ => True) v136 t134) ∧ Aside0 (Kd.R (Kd.int .i64) 3 wc w.heap.size (fun _ => True) u9 x9_2) ∧ Aside0 (Below w.heap.size w wc))
                  case first => as_aux_lemma =>
                    have H := HC43.out
                    clear HC43
                    by_cases c44 : (l0.length : Int) = 0
                    · rw [if_pos c44] at H
                      have c44b0 : ((l0.length : Int) == 0) = true := beq_iff_eq.mpr c44
                      have c44b1 : ((l0.length : Int) != 0) = false := bne_eq_false_iff_eq.mpr c44
                      clear c44
                      (first | rw [c44b0] | (simp only [i64_w, i32_w]; rw [c44b0]) | skip)
                      have H' := Aside0.mk H
                      clear H
                      go_wp2
                      go_meet
                      case rel => exact ⟨_, (true), (by first | rfl | (simp; done) | (simp [*]; done)), H', ⟨by have := HJ5.out; have := HK2.out; first | omega | exact Nat.le_refl _⟩, ⟨by (with_reducible repeat (first | apply Kd.R_alloc | apply Kd.R_drewN | apply Kd.R_drew)); exact HO_7.out⟩, ⟨by (with_reducible repeat (first | apply Kd.R_alloc | apply Kd.R_drewN | apply Kd.R_drew)); exact HO_9.out⟩, ⟨by repeat (first | (with_reducible first | exact HB.out | apply below_alloc | apply pw_below_drewN | apply below_drew1) | exact HB.out)⟩⟩
                    · rw [if_neg c44] at H
                      have c44b0 : ((l0.length : Int) == 0) = false := beq_eq_false_iff_ne.mpr c44
                      have c44b1 : ((l0.length : Int) != 0) = true := bne_iff_ne.mpr c44
                      have c44b2 : ¬ (l0 = []) := fun h_ => c44 (by rw [h_]; rfl)
                      (first | rw [c44b0] | (simp only [i64_w, i32_w]; rw [c44b0]) | skip)
                      obtain ⟨ji45, hji45⟩ : ∃ j_ : Int, (wrap64 ((l0.length : Int) - 1)) = j_ := ⟨_, rfl⟩
                      replace H : (if 0 ≤ (ji45) then (if (ji45) < (l0.length : Int) then (culletlaw15_WalshGrows.j2 k2 a1 a2 t134 x9_2 (decide ((rd l0 (ji45)) < a2))) else (none)) else (none)) = some r := by first | (rw [hji45] at H; exact H) | (simp only [hji45] at H ⊢; exact H)
                      have hji45w : (IntKind.i64.wrap ((l0.length : Int) - 1)) = ji45 := (i64_w _).trans hji45
                      by_cases c46 : 0 ≤ (ji45)
                      · rw [if_pos c46] at H
                        have c46b0 : decide (0 ≤ (ji45)) = true := decide_eq_true c46
                        clear c46
                        by_cases c47 : (ji45) < (l0.length : Int)
                        · rw [if_pos c47] at H
                          have c47b0 : decide ((ji45) < (l0.length : Int)) = true := decide_eq_true c47
                          clear c47
                          have H' := Aside0.mk H
                          clear H
                          have p158 : 0 ≤ ((ji45) : Int) := of_decide_eq_true (by first | (with_reducible assumption) | assumption)
                          have q158 : (ji45) < (l0.length : Int) := of_decide_eq_true (by first | (with_reducible assumption) | assumption)
                          obtain ⟨ad158, e158, hx158_0⟩ := Kd.at_int HR0.out (ji45) p158 q158
                          cases e158
                          replace hx158_0 := (HB.out.cell (World.block_lt_of_cell? w _ hx158_0)).trans hx158_0
                          replace p158 := eq_true p158
                          replace q158 := eq_true q158
                          go_wp2
                          go_meet
                          case rel => exact ⟨_, (decide ((rd l0 (ji45)) < a2)), (by first | rfl | (simp; done) | (simp only [← hji45] <;> (first | rfl | simp)) | (simp [*]; done)), H', ⟨by have := HJ5.out; have := HK2.out; first | omega | exact Nat.le_refl _⟩, ⟨by (with_reducible repeat (first | apply Kd.R_alloc | apply Kd.R_drewN | apply Kd.R_drew)); exact HO_7.out⟩, ⟨by (with_reducible repeat (first | apply Kd.R_alloc | apply Kd.R_drewN | apply Kd.R_drew)); exact HO_9.out⟩, ⟨by repeat (first | (with_reducible first | exact HB.out | apply below_alloc | apply pw_below_drewN | apply below_drew1) | exact HB.out)⟩⟩
                        · rw [if_neg c47] at H
                          exact absurd H (by simp)
                      · rw [if_neg c46] at H
                        exact absurd H (by simp)
                  case rest => as_aux_lemma =>
                    clear HC43
                    try clear c1
                    try clear p1
                    try clear q1
                    try clear hx1
                    try clear c2
                    try clear p2
                    try clear c3
                    try clear c4
                    try clear c5
                    try clear p6
                    try clear c8
                    try clear c8b0
                    try clear p8
                    try clear c9
                    try clear c9b0
                    try clear c10
                    try clear c10b0
                    try clear c11
                    try clear c12
                    try clear c12b0
                    try clear c12b1
                    try clear p13
                    try clear q13
                    try clear hx13
                    try clear c14
                    try clear p14
                    try clear q14
                    try clear hx14
                    try clear p15
                    try clear q15
                    try clear hx15
                    try clear c17
                    try clear c17b0
                    try clear c17b1
                    try clear c21
                    try clear c21b0
                    try clear c22
                    try clear c22b0
                    try clear c23
                    try clear c23b0
                    try clear c24
                    try clear c24b0
                    try clear c24b1
                    try clear c25
                    try clear c25b0
                    try clear c26
                    try clear c26b0
                    try clear c26b1
                    try clear c27
                    try clear c28
                    try clear c32
                    try clear c32b0
                    try clear c33
                    try clear c33b0
                    try clear c34
                    try clear c34b0
                    try clear c35
                    try clear c36
                    try clear c39
                    try clear c41
                    try clear c44
                    try clear c44b0
                    try clear c44b1
                    try clear c44b2
                    try clear c46
                    try clear c46b0
                    try clear c47
                    try clear c47b0
                    try clear hx138_0
                    try clear hx145_0
                    try clear hx158_0
                    try clear p138
                    try clear p145
                    try clear p158
                    try clear p2
                    try clear p6
                    try clear p8
                    try clear q138
                    try clear q145
                    try clear q158
                    obtain ⟨kq, x100_42, rfl, HA, HJ42, HO_7, HO_9, HB⟩ := hcut
                    cases kq with
                    | zero => exact absurd HA.out (by simp [culletlaw15_WalshGrows.j2])
                    | succ kj42 =>
                      have H := HA.out
                      clear HA
                      simp only [culletlaw15_WalshGrows.j2] at H
                      have HC48 := Aside0.mk H
                      clear H
                      go_upto_if 100 with (fail)
                      go_cut [9] (fun v9 wc => ∃ (kq : Nat) (x9_47 : List Int), Aside0 (culletlaw15_WalshGrows.j3 kq a1 a2 t134 x9_47 = some r) ∧ Aside0 (kq ≤ kj42) ∧ Aside0 (Kd.R (Kd.int .u16) 33 wc w.heap.size (fun _ => True) v136 t134) ∧ Aside0 (Kd.R (Kd.int .i64) 3 wc w.heap.size (fun _ => True) v9 x9_47) ∧ Aside0 (Below w.heap.size w wc))
                      case first => as_aux_lemma =>
                        have H := HC48.out
                        clear HC48
                        by_cases c49 : x100_42 = true
                        · subst c49
                          have H1 : (if x9_2.length < 17592186044416 then (culletlaw15_WalshGrows.j3 kj42 a1 a2 t134 (x9_2 ++ [a2])) else (none)) = some r := by rw [if_pos rfl] at H; exact H
                          clear H
                          have H := H1
                          clear H1
                          by_cases c50 : x9_2.length < 17592186044416
                          · rw [if_pos c50] at H
                            have LMc50 := Aside0.mk c50
                            clear c50
                            obtain ⟨y159, hy159⟩ : ∃ y_ : List Int, y_ = (x9_2 ++ [a2]) := ⟨_, rfl⟩
                            replace H : (culletlaw15_WalshGrows.j3 kj42 a1 a2 t134 y159) = some r := by first | (rw [hy159]; with_reducible exact H) | (have H2_ := (Option.bind_some _ _).symm.trans H; rw [hy159]; with_reducible exact H2_) | (have H2_ := (Option.bind_some _ _).symm.trans H; with_reducible exact H2_) | with_reducible exact H | (rw [hy159]; exact H) | exact H
                            have Ny159 := Aside0.mk hy159
                            clear hy159
                            have H' := Aside0.mk H
                            clear H
                            go_wp2_with (first | ((with_reducible refine gate_builtin (b := .append) (xs := #[.tmp 101, .tmp 103]) rfl ?_); (try (refine gate_guard (by rfl) ?_; dsimp only)); at_builtin; refine Kd.R_append (Kd.int .i64) (w0 := w) w.heap.size rfl (.tmp 101) (.tmp 103) 35 3 (.int .i64 0) 8 rfl Try.underlying35 info3 rfl (by decide) (by omega) u9 x9_2 a2 [.int .i64 a2] (fun _ => True) (fun _ => False) rfl rfl ?aP (fun _ hk => hk.elim) ?aF ?aO ?aB ?aS ?aL ?_; (case aP => exact rfl); (case aB => exact (by repeat (first | (with_reducible first | exact HB.out | apply below_alloc | apply pw_below_drewN | apply below_drew1) | exact HB.out))); (case aF => exact (fun _ _ => trivial)); (case aO => exact (by (with_reducible repeat (first | apply Kd.R_alloc | apply Kd.R_drewN | apply Kd.R_drew)); exact HO_9.out)); (case aS => exact (below_size (by repeat (first | (with_reducible first | exact HB.out | apply below_alloc | apply pw_below_drewN | apply below_drew1) | exact HB.out)))); (case aL => have := LMc50.out; omega); intro v160 w51 ho hb hg hat; rw [← Ny159.out] at ho; have n0_ := Aside0.mk (Kd.R_over' (by (with_reducible repeat (first | apply Kd.R_alloc | apply Kd.R_drewN | apply Kd.R_drew)); exact HO_7.out) (Kd.R_typed (by (with_reducible repeat (first | apply Kd.R_alloc | apply Kd.R_drewN | apply Kd.R_drew)); exact HO_9.out)) (by decide) hg); have n1_ := Aside0.mk (hb); have n2_ := Aside0.mk (ho); clear HO_7; clear HB; clear HO_9; have HO_7 := n0_; have HB := n1_; have HO161 := n2_; clear n0_ n1_ n2_; clear ho hb hg hat))
                            go_meet
                            case rel => exact ⟨_, (y159), H', ⟨by have := HJ5.out; have := HK2.out; have := HJ42.out; first | omega | exact Nat.le_refl _⟩, ⟨by (with_reducible repeat (first | apply Kd.R_alloc | apply Kd.R_drewN | apply Kd.R_drew)); exact HO_7.out⟩, ⟨by (with_reducible repeat (first | apply Kd.R_alloc | apply Kd.R_drewN | apply Kd.R_drew)); exact HO161.out⟩, ⟨by repeat (first | (with_reducible first | exact HB.out | apply below_alloc | apply pw_below_drewN | apply below_drew1) | exact HB.out)⟩⟩
                          · rw [if_neg c50] at H
                            exact absurd H (by simp)
                        · replace c49 := Bool.eq_false_iff.mpr c49
                          subst c49
                          have H1 : (culletlaw15_WalshGrows.j3 kj42 a1 a2 t134 x9_2) = some r := by rw [if_neg (show ¬ (false = true) by decide)] at H; exact H
                          clear H
                          have H := H1
                          clear H1
                          have H' := Aside0.mk H
                          clear H
                          go_wp2
                          go_meet
                          case rel => exact ⟨_, (x9_2), H', ⟨by have := HJ5.out; have := HK2.out; have := HJ42.out; first | omega | exact Nat.le_refl _⟩, ⟨by (with_reducible repeat (first | apply Kd.R_alloc | apply Kd.R_drewN | apply Kd.R_drew)); exact HO_7.out⟩, ⟨by (with_reducible repeat (first | apply Kd.R_alloc | apply Kd.R_drewN | apply Kd.R_drew)); exact HO_9.out⟩, ⟨by repeat (first | (with_reducible first | exact HB.out | apply below_alloc | apply pw_below_drewN | apply below_drew1) | exact HB.out)⟩⟩
                      case rest => as_aux_lemma =>
                        clear HC48
                        try clear c1
                        try clear p1
                        try clear q1
                        try clear hx1
                        try clear c2
                        try clear p2
                        try clear c3
                        try clear c4
                        try clear c5
                        try clear p6
                        try clear c8
                        try clear c8b0
                        try clear p8
                        try clear c9
                        try clear c9b0
                        try clear c10
                        try clear c10b0
                        try clear c11
                        try clear c12
                        try clear c12b0
                        try clear c12b1
                        try clear p13
                        try clear q13
                        try clear hx13
                        try clear c14
                        try clear p14
                        try clear q14
                        try clear hx14
                        try clear p15
                        try clear q15
                        try clear hx15
                        try clear c17
                        try clear c17b0
                        try clear c17b1
                        try clear c21
                        try clear c21b0
                        try clear c22
                        try clear c22b0
                        try clear c23
                        try clear c23b0
                        try clear c24
                        try clear c24b0
                        try clear c24b1
                        try clear c25
                        try clear c25b0
                        try clear c26
                        try clear c26b0
                        try clear c26b1
                        try clear c27
                        try clear c28
                        try clear c32
                        try clear c32b0
                        try clear c33
                        try clear c33b0
                        try clear c34
                        try clear c34b0
                        try clear c35
                        try clear c36
                        try clear c39
                        try clear c41
                        try clear c44
                        try clear c44b0
                        try clear c44b1
                        try clear c44b2
                        try clear c46
                        try clear c46b0
                        try clear c47
                        try clear c47b0
                        try clear c49
                        try clear c50
                        try clear hx138_0
                        try clear hx145_0
                        try clear hx158_0
                        try clear p1
                        try clear p13
                        try clear p138
                        try clear p14
                        try clear p145
                        try clear p15
                        try clear p158
                        try clear p2
                        try clear p6
                        try clear p8
                        try clear q1
                        try clear q13
                        try clear q138
                        try clear q14
                        try clear q145
                        try clear q15
                        try clear q158
                        obtain ⟨kq, x9_47, HA, HJ47, HO_7, HO_9, HB⟩ := hcut
                        cases kq with
                        | zero => exact absurd HA.out (by simp [culletlaw15_WalshGrows.j3])
                        | succ kj47 =>
                          have H := HA.out
                          clear HA
                          simp only [culletlaw15_WalshGrows.j3] at H
                          replace H := Option.bind_eq_some_iff.mp H
                          obtain ⟨⟨t162, t163⟩, A520, H⟩ := H
                          replace H : (if t163 = 0 then (if 0 ≤ (IntKind.u64.wrap (a1)) then (if (t134.length : Int) = (shl .i64 1 (IntKind.u64.wrap (a1))) then (culletlaw15_WalshGrows.j4 kj47 a1 a2 t134 t162 ((t162.length : Int) != (t134.length : Int))) else (culletlaw15_WalshGrows.j4 kj47 a1 a2 t134 t162 true)) else (none)) else (culletlaw15_WalshGrows.j4 kj47 a1 a2 t134 t162 true)) = some r := H
                          have A52 := Aside0.mk A520
                          clear A520
                          have HC53 := Aside0.mk H
                          clear H
                          obtain ⟨Ao54, co54, eo54⟩ := Kd.R_slice HO_9.out
                          subst eo54
                          go_upto_region 21 with (first | ((with_reducible refine gate_callee (f := 26) rfl ?_); refine goesL_ (some 108) rfl rfl Try.func26 (by kernel_rfl) rfl #[.slice Ao54 x9_47.length co54, .int .i64 a1] rfl (by (try simp only [List.map_toArray, List.map_cons, List.map_nil]); first | done | rfl | (simp only [tb_wrap8]; done) | (simp only [tb_wrap8]; rfl) | (simp only [List.length_drop, List.length_take]; rfl)) ?_; (with_reducible refine (walsh_Products.calls _ _ x9_47 a1 t162 t163 _ ?side1 ?side2 A52.out).mono ?_); (case side1 => repeat (first | exact (Kd.R_reads' HO_9.out).2.2 | (with_reducible refine Kd.C_alloc ?_ _) | (with_reducible refine Kd.C_drewN ?_ _) | (with_reducible refine Kd.C_drew ?_))); (case side2 => exact (Kd.R_reads' HO_9.out).2.1); rintro e w55 ⟨v164, rfl, ho0, hb⟩; refine ⟨_, rfl, ?_⟩; have n0_ := Aside0.mk (Kd.R_elder' (by (with_reducible repeat (first | apply Kd.R_alloc | apply Kd.R_drewN | apply Kd.R_drew)); exact HO_7.out) (Kd.R_base ho0) hb); have n1_ := Aside0.mk (Kd.R_below (by (with_reducible repeat (first | apply Kd.R_alloc | apply Kd.R_drewN | apply Kd.R_drew)); exact HO_9.out) hb); have n2_ := Aside0.mk (Kd.R_lower (Kd.R_new' ho0 (Kd.R_lt (by (with_reducible repeat (first | apply Kd.R_alloc | apply Kd.R_drewN | apply Kd.R_drew)); exact HO_7.out))) (below_size (by repeat (first | (with_reducible first | exact HB.out | apply below_alloc | apply pw_below_drewN | apply below_drew1) | exact HB.out)))); have n3_ := Aside0.mk (below_step (by repeat (first | (with_reducible first | exact HB.out | apply below_alloc | apply pw_below_drewN | apply below_drew1) | exact HB.out)) hb); clear HO_7; clear HO_9; clear HB; have HO_7 := n0_; have HO_9 := n1_; have HO165 := n2_; have HB := n3_; clear n0_ n1_ n2_ n3_; (try clear hb); (try clear hb2); (try clear hk); (try clear hi); (try clear ho0)))
                          (try simp only [Act.put, List.setIfInBounds_toArray, List.set_cons_zero, List.set_cons_succ])
                          go_cut [127] (fun v127 wc => ∃ (kq : Nat) (x127_52 : Bool), v127 = .bool x127_52 ∧ Aside0 (culletlaw15_WalshGrows.j4 kq a1 a2 t134 t162 x127_52 = some r) ∧ Aside0 (kq ≤ kj47) ∧ Aside0 (Kd.R (Kd.int .u16) 33 wc w.heap.size (fun k_ => some k_ ≠ (v164 : Value).ownBlock) v136 t134) ∧ Aside0 (Kd.R (Kd.int .u16) 33 wc w.heap.size (fun k_ => some k_ ≠ (v136 : Value).ownBlock) v164 t162) ∧ Aside0 (Below w.heap.size w wc))
                          case first => as_aux_lemma =>
                            have H := HC53.out
                            clear HC53
                            by_cases c56 : t163 = 0
                            · rw [if_pos c56] at H
                              have c56b0 : (t163 == 0) = true := beq_iff_eq.mpr c56
                              have c56b1 : (t163 != 0) = false := bne_eq_false_iff_eq.mpr c56
                              clear c56
                              (first | rw [c56b0] | (simp only [i64_w, i32_w]; rw [c56b0]) | skip)
                              obtain ⟨ji57, hji57⟩ : ∃ j_ : Int, (IntKind.u64.wrap (a1)) = j_ := ⟨_, rfl⟩
                              replace H : (if 0 ≤ (ji57) then (if (t134.length : Int) = (shl .i64 1 (ji57)) then (culletlaw15_WalshGrows.j4 kj47 a1 a2 t134 t162 ((t162.length : Int) != (t134.length : Int))) else (culletlaw15_WalshGrows.j4 kj47 a1 a2 t134 t162 true)) else (none)) = some r := by first | (rw [hji57] at H; exact H) | (simp only [hji57] at H ⊢; exact H)
                              by_cases c58 : 0 ≤ (ji57)
                              · rw [if_pos c58] at H
                                have c58b0 := eq_true c58
                                have c58b1 : decide (0 ≤ (ji57)) = true := decide_eq_true c58
                                clear c58
                                obtain ⟨ji59, hji59⟩ : ∃ j_ : Int, (shl .i64 1 (ji57)) = j_ := ⟨_, rfl⟩
                                replace H : (if (t134.length : Int) = (ji59) then (culletlaw15_WalshGrows.j4 kj47 a1 a2 t134 t162 ((t162.length : Int) != (t134.length : Int))) else (culletlaw15_WalshGrows.j4 kj47 a1 a2 t134 t162 true)) = some r := by first | (rw [hji59] at H; exact H) | (simp only [hji59] at H ⊢; exact H)
                                have hji59_ : (IntKind.i64.wrap (1 * 2 ^ min (ji57).toNat 64)) = ji59 := hji59
                                have hji59z : (ji57) ≤ 64 → (IntKind.i64.wrap (1 * 2 ^ (ji57).toNat)) = ji59 := shl_small hji59
                                have hji59u : (IntKind.i64.wrap (2 ^ min (ji57).toNat 64)) = ji59 := by have h_ := hji59_; rw [Int.one_mul] at h_; exact h_
                                have hji59v : (ji57) ≤ 64 → (IntKind.i64.wrap (2 ^ (ji57).toNat)) = ji59 := fun hle_ => by have h_ := hji59z hle_; rw [Int.one_mul] at h_; exact h_
                                have hji59y : (wrap64 (1 * 2 ^ min (ji57).toNat 64)) = ji59 := (i64_w _).symm.trans hji59_
                                have hji59x : (ji57) ≤ 64 → (wrap64 (1 * 2 ^ (ji57).toNat)) = ji59 := fun h_ => (i64_w _).symm.trans (hji59z h_)
                                by_cases c60 : (t134.length : Int) = (ji59)
                                · rw [if_pos c60] at H
                                  have c60b0 : ((t134.length : Int) == (ji59)) = true := beq_iff_eq.mpr c60
                                  have c60b1 : ((t134.length : Int) != (ji59)) = false := bne_eq_false_iff_eq.mpr c60
                                  clear c60
                                  have H' := Aside0.mk H
                                  clear H
                                  obtain ⟨Ao61, co61, eo61⟩ := Kd.R_slice HO_7.out
                                  subst eo61
                                  obtain ⟨Ao62, co62, eo62⟩ := Kd.R_slice HO165.out
                                  subst eo62
                                  go_wp2
                                  go_meet
                                  case rel => exact ⟨_, (((t162.length : Int) != (t134.length : Int))), (by first | rfl | (simp; done) | (simp [*]; done)), H', ⟨by have := HJ5.out; have := HK2.out; have := HJ42.out; have := HJ47.out; first | omega | exact Nat.le_refl _⟩, ⟨by (with_reducible repeat (first | apply Kd.R_alloc | apply Kd.R_drewN | apply Kd.R_drew)); exact Kd.R_mono HO_7.out (fun _ hk => hk.2)⟩, ⟨by (with_reducible repeat (first | apply Kd.R_alloc | apply Kd.R_drewN | apply Kd.R_drew)); exact Kd.R_mono HO165.out (fun _ hk => hk.2)⟩, ⟨by repeat (first | (with_reducible first | exact HB.out | apply below_alloc | apply pw_below_drewN | apply below_drew1) | exact HB.out)⟩⟩
                                · rw [if_neg c60] at H
                                  have c60b0 : ((t134.length : Int) == (ji59)) = false := beq_eq_false_iff_ne.mpr c60
                                  have c60b1 : ((t134.length : Int) != (ji59)) = true := bne_iff_ne.mpr c60
                                  have H' := Aside0.mk H
                                  clear H
                                  obtain ⟨Ao63, co63, eo63⟩ := Kd.R_slice HO_7.out
                                  subst eo63
                                  go_wp2
                                  go_meet
                                  case rel => exact ⟨_, (true), (by first | rfl | (simp; done) | (simp [*]; done)), H', ⟨by have := HJ5.out; have := HK2.out; have := HJ42.out; have := HJ47.out; first | omega | exact Nat.le_refl _⟩, ⟨by (with_reducible repeat (first | apply Kd.R_alloc | apply Kd.R_drewN | apply Kd.R_drew)); exact Kd.R_mono HO_7.out (fun _ hk => hk.2)⟩, ⟨by (with_reducible repeat (first | apply Kd.R_alloc | apply Kd.R_drewN | apply Kd.R_drew)); exact Kd.R_mono HO165.out (fun _ hk => hk.2)⟩, ⟨by repeat (first | (with_reducible first | exact HB.out | apply below_alloc | apply pw_below_drewN | apply below_drew1) | exact HB.out)⟩⟩
                              · rw [if_neg c58] at H
                                exact absurd H (by simp)
                            · rw [if_neg c56] at H
                              have c56b0 : (t163 == 0) = false := beq_eq_false_iff_ne.mpr c56
                              have c56b1 : (t163 != 0) = true := bne_iff_ne.mpr c56
                              (first | rw [c56b0] | (simp only [i64_w, i32_w]; rw [c56b0]) | skip)
                              have H' := Aside0.mk H
                              clear H
                              go_wp2
                              go_meet
                              case rel => exact ⟨_, (true), (by first | rfl | (simp; done) | (simp [*]; done)), H', ⟨by have := HJ5.out; have := HK2.out; have := HJ42.out; have := HJ47.out; first | omega | exact Nat.le_refl _⟩, ⟨by (with_reducible repeat (first | apply Kd.R_alloc | apply Kd.R_drewN | apply Kd.R_drew)); exact Kd.R_mono HO_7.out (fun _ hk => hk.2)⟩, ⟨by (with_reducible repeat (first | apply Kd.R_alloc | apply Kd.R_drewN | apply Kd.R_drew)); exact Kd.R_mono HO165.out (fun _ hk => hk.2)⟩, ⟨by repeat (first | (with_reducible first | exact HB.out | apply below_alloc | apply pw_below_drewN | apply below_drew1) | exact HB.out)⟩⟩
                          case rest => as_aux_lemma =>
                            clear HC53
                            try clear c1
                            try clear p1
                            try clear q1
                            try clear hx1
                            try clear c2
                            try clear p2
                            try clear c3
                            try clear c4
                            try clear c5
                            try clear c6
                            try clear p6
                            try clear c8
                            try clear c8b0
                            try clear p8
                            try clear c9
                            try clear c9b0
                            try clear c10
                            try clear c10b0
                            try clear c11
                            try clear c12
                            try clear c12b0
                            try clear c12b1
                            try clear p13
                            try clear q13
                            try clear hx13
                            try clear c14
                            try clear p14
                            try clear q14
                            try clear hx14
                            try clear p15
                            try clear q15
                            try clear hx15
                            try clear c17
                            try clear c17b0
                            try clear c17b1
                            try clear c21
                            try clear c21b0
                            try clear c22
                            try clear c22b0
                            try clear c23
                            try clear c23b0
                            try clear c24
                            try clear c24b0
                            try clear c24b1
                            try clear c25
                            try clear c25b0
                            try clear c26
                            try clear c26b0
                            try clear c26b1
                            try clear c27
                            try clear c28
                            try clear c32
                            try clear c32b0
                            try clear c33
                            try clear c33b0
                            try clear c34
                            try clear c34b0
                            try clear c35
                            try clear c36
                            try clear c39
                            try clear c41
                            try clear c44
                            try clear c44b0
                            try clear c44b1
                            try clear c44b2
                            try clear c46
                            try clear c46b0
                            try clear c47
                            try clear c47b0
                            try clear c49
                            try clear c50
                            try clear c56
                            try clear c56b0
                            try clear c56b1
                            try clear c58
                            try clear c58b0
                            try clear c58b1
                            try clear c60
                            try clear c60b0
                            try clear c60b1
                            try clear hx138_0
                            try clear hx145_0
                            try clear hx158_0
                            try clear p1
                            try clear p13
                            try clear p138
                            try clear p14
                            try clear p145
                            try clear p15
                            try clear p158
                            try clear p2
                            try clear p6
                            try clear p8
                            try clear q1
                            try clear q13
                            try clear q138
                            try clear q14
                            try clear q145
                            try clear q15
                            try clear q158
                            obtain ⟨kq, x127_52, rfl, HA, HJ52, HO_7, HO_12, HB⟩ := hcut
                            cases kq with
                            | zero => exact absurd HA.out (by simp [culletlaw15_WalshGrows.j4])
                            | succ kj52 =>
                              have H := HA.out
                              clear HA
                              simp only [culletlaw15_WalshGrows.j4] at H
                              by_cases c64 : x127_52 = true
                              · subst c64
                                have H1 : (some false) = some r := by rw [if_pos rfl] at H; exact H
                                clear H
                                have H := H1
                                clear H1
                                obtain rfl := Option.some.inj H
                                go_wp2
                                go_ret
                                exact ⟨by first | rfl | (simp [errW_none, errW_some] <;> rfl) | (simp [*, errW_none, errW_some] <;> rfl), by repeat (first | (with_reducible first | exact HB.out | apply below_alloc | apply pw_below_drewN | apply below_drew1) | exact HB.out)⟩
                              · replace c64 := Bool.eq_false_iff.mpr c64
                                subst c64
                                have H1 : ((gf16_Element.f a2).bind fun bt166 => (culletlaw15_WalshGrows.l1 kj52 a1 a2 t134 t162 bt166.1 (t134.length : Int) 0)) = some r := by rw [if_neg (show ¬ (false = true) by decide)] at H; exact H
                                clear H
                                have H := H1
                                clear H1
                                replace H := Option.bind_eq_some_iff.mp H
                                obtain ⟨⟨t166, t167⟩, A650, H⟩ := H
                                replace H : (culletlaw15_WalshGrows.l1 kj52 a1 a2 t134 t162 t166 (t134.length : Int) 0) = some r := H
                                have A65 := Aside0.mk A650
                                clear A650
                                have H' := Aside0.mk H
                                clear H
                                go_wp2_with (first | ((with_reducible refine gate_callee (f := 33) rfl ?_); refine goesL_ (some 130) rfl rfl Try.func33 (by kernel_rfl) rfl #[.int .i64 a2] rfl (by (try simp only [List.map_toArray, List.map_cons, List.map_nil]); first | done | rfl | (simp only [tb_wrap8]; done) | (simp only [tb_wrap8]; rfl) | (simp only [List.length_drop, List.length_take]; rfl)) ?_; (with_reducible refine (gf16_Element.calls a2 t166 t167 _ A65.out).mono ?_); rintro e w66 ⟨rfl, hb⟩; refine ⟨_, rfl, ?_⟩; have n0_ := Aside0.mk (Kd.R_below (by (with_reducible repeat (first | apply Kd.R_alloc | apply Kd.R_drewN | apply Kd.R_drew)); exact HO_7.out) hb); have n1_ := Aside0.mk (Kd.R_below (by (with_reducible repeat (first | apply Kd.R_alloc | apply Kd.R_drewN | apply Kd.R_drew)); exact HO_12.out) hb); have n2_ := Aside0.mk (below_step (by repeat (first | (with_reducible first | exact HB.out | apply below_alloc | apply pw_below_drewN | apply below_drew1) | exact HB.out)) hb); clear HO_7; clear HO_12; clear HB; have HO_7 := n0_; have HO_12 := n1_; have HB := n2_; clear n0_ n1_ n2_; (try clear hb); (try clear hb2); (try clear hk); (try clear hi); obtain ⟨Ao67, co67, eo67⟩ := Kd.R_slice HO_7.out; subst eo67))
                                go_loopg [135] kj52 (fun kq v135 w' => ∃ (x135_6 : Int), v135 = .int .i64 x135_6 ∧ Aside0 (culletlaw15_WalshGrows.l1 kq a1 a2 t134 t162 t166 (t134.length : Int) x135_6 = some r) ∧ Aside0 (kq ≤ kj52) ∧ Aside0 (Kd.R (Kd.int .u16) 33 w' w.heap.size (fun k_ => some k_ ≠ (v164 : Value).ownBlock) (.slice Ao67 t134.length co67) t134) ∧ Aside0 (Kd.R (Kd.int .u16) 33 w' w.heap.size (fun k_ => some k_ ≠ ((.slice Ao67 t134.length co67) : Value).ownBlock) v164 t162) ∧ Aside0 (Below w.heap.size w w'))
                                case atStart => exact ⟨(0), (by first | rfl | (simp; done) | (simp [*]; done)), H', ⟨Nat.le_refl _⟩, ⟨by (with_reducible repeat (first | apply Kd.R_alloc | apply Kd.R_drewN | apply Kd.R_drew)); exact HO_7.out⟩, ⟨by (with_reducible repeat (first | apply Kd.R_alloc | apply Kd.R_drewN | apply Kd.R_drew)); exact HO_12.out⟩, ⟨by repeat (first | (with_reducible first | exact HB.out | apply below_alloc | apply pw_below_drewN | apply below_drew1) | exact HB.out)⟩⟩
                                case round =>
                                  clear H'
                                  try clear c1
                                  try clear p1
                                  try clear q1
                                  try clear hx1
                                  try clear c2
                                  try clear p2
                                  try clear c3
                                  try clear c4
                                  try clear c5
                                  try clear c6
                                  try clear p6
                                  try clear c8
                                  try clear c8b0
                                  try clear p8
                                  try clear c9
                                  try clear c9b0
                                  try clear c10
                                  try clear c10b0
                                  try clear c11
                                  try clear c12
                                  try clear c12b0
                                  try clear c12b1
                                  try clear p13
                                  try clear q13
                                  try clear hx13
                                  try clear c14
                                  try clear p14
                                  try clear q14
                                  try clear hx14
                                  try clear p15
                                  try clear q15
                                  try clear hx15
                                  try clear c17
                                  try clear c17b0
                                  try clear c17b1
                                  try clear c21
                                  try clear c21b0
                                  try clear c22
                                  try clear c22b0
                                  try clear c23
                                  try clear c23b0
                                  try clear c24
                                  try clear c24b0
                                  try clear c24b1
                                  try clear c25
                                  try clear c25b0
                                  try clear c26
                                  try clear c26b0
                                  try clear c26b1
                                  try clear c27
                                  try clear c28
                                  try clear c32
                                  try clear c32b0
                                  try clear c33
                                  try clear c33b0
                                  try clear c34
                                  try clear c34b0
                                  try clear c35
                                  try clear c36
                                  try clear c39
                                  try clear c41
                                  try clear c44
                                  try clear c44b0
                                  try clear c44b1
                                  try clear c44b2
                                  try clear c46
                                  try clear c46b0
                                  try clear c47
                                  try clear c47b0
                                  try clear c49
                                  try clear c50
                                  try clear c56
                                  try clear c56b0
                                  try clear c56b1
                                  try clear c58
                                  try clear c58b0
                                  try clear c58b1
                                  try clear c60
                                  try clear c60b0
                                  try clear c60b1
                                  try clear c64
                                  try clear p64
                                  try clear hx138_0
                                  try clear hx145_0
                                  try clear hx158_0
                                  try clear p1
                                  try clear p13
                                  try clear p138
                                  try clear p14
                                  try clear p145
                                  try clear p15
                                  try clear p158
                                  try clear p2
                                  try clear p6
                                  try clear p8
                                  try clear q1
                                  try clear q13
                                  try clear q138
                                  try clear q14
                                  try clear q145
                                  try clear q15
                                  try clear q158
                                  obtain ⟨x135_6, rfl, HA, HK6, HO_7, HO_12, HB⟩ := hrel
                                  cases gk with
                                  | zero => exact absurd HA.out (by simp [culletlaw15_WalshGrows.l1])
                                  | succ k6 =>
                                    have H := HA.out
                                    clear HA
                                    simp only [culletlaw15_WalshGrows.l1] at H
                                    by_cases c68 : x135_6 < (t134.length : Int)
                                    · rw [if_pos c68] at H
                                      have c68b0 : decide (x135_6 < (t134.length : Int)) = true := decide_eq_true c68
                                      clear c68
                                      by_cases c69 : 0 ≤ x135_6
                                      · rw [if_pos c69] at H
                                        have c69b0 : decide (0 ≤ x135_6) = true := decide_eq_true c69
                                        clear c69
                                        by_cases c70 : x135_6 < (t134.length : Int)
                                        · rw [if_pos c70] at H
                                          have c70b0 : decide (x135_6 < (t134.length : Int)) = true := decide_eq_true c70
                                          clear c70
                                          by_cases c71 : x135_6 = a2
                                          · rw [if_pos c71] at H
                                            have c71b0 : (x135_6 == a2) = true := beq_iff_eq.mpr c71
                                            have c71b1 : (x135_6 != a2) = false := bne_eq_false_iff_eq.mpr c71
                                            clear c71
                                            by_cases c72 : x135_6 < (t162.length : Int)
                                            · rw [if_pos c72] at H
                                              have c72b0 : decide (x135_6 < (t162.length : Int)) = true := decide_eq_true c72
                                              clear c72
                                              by_cases c73 : (rd t162 x135_6) = (rd t134 x135_6)
                                              · rw [if_pos c73] at H
                                                have c73b0 : ((rd t162 x135_6) == (rd t134 x135_6)) = true := beq_iff_eq.mpr c73
                                                have c73b1 : ((rd t162 x135_6) != (rd t134 x135_6)) = false := bne_eq_false_iff_eq.mpr c73
                                                clear c73
                                                have H' := Aside0.mk H
                                                clear H
                                                have p168 : 0 ≤ (x135_6 : Int) := of_decide_eq_true (by first | (with_reducible assumption) | assumption)
                                                have q168 : x135_6 < (t134.length : Int) := of_decide_eq_true (by first | (with_reducible assumption) | assumption)
                                                obtain ⟨ad168, e168, hx168_0⟩ := Kd.at_int (Kd.R_reads' HO_7.out).2.2 x135_6 p168 q168
                                                cases e168
                                                replace p168 := eq_true p168
                                                replace q168 := eq_true q168
                                                obtain ⟨Ao74, co74, eo74⟩ := Kd.R_slice HO_12.out
                                                subst eo74
                                                have p169 : 0 ≤ (x135_6 : Int) := of_decide_eq_true (by first | (with_reducible assumption) | assumption)
                                                have q169 : x135_6 < (t162.length : Int) := of_decide_eq_true (by first | (with_reducible assumption) | assumption)
                                                obtain ⟨ad169, e169, hx169_0⟩ := Kd.at_int (Kd.R_reads' HO_12.out).2.2 x135_6 p169 q169
                                                cases e169
                                                replace p169 := eq_true p169
                                                replace q169 := eq_true q169
                                                go_wp2
                                                go_roundg k6
                                                case measure => have := HJ5.out; have := HK2.out; have := HJ42.out; have := HJ47.out; have := HJ52.out; have := HK6.out; omega
                                                case rel => exact ⟨(wrap64 (x135_6 + 1)), (by first | rfl | (simp; done) | (simp [*]; done)), H', ⟨by have := HJ5.out; have := HK2.out; have := HJ42.out; have := HJ47.out; have := HJ52.out; have := HK6.out; omega⟩, ⟨by (with_reducible repeat (first | apply Kd.R_alloc | apply Kd.R_drewN | apply Kd.R_drew)); exact HO_7.out⟩, ⟨by (with_reducible repeat (first | apply Kd.R_alloc | apply Kd.R_drewN | apply Kd.R_drew)); exact HO_12.out⟩, ⟨by repeat (first | (with_reducible first | exact HB.out | apply below_alloc | apply pw_below_drewN | apply below_drew1) | exact HB.out)⟩⟩
                                              · rw [if_neg c73] at H
                                                have c73b0 : ((rd t162 x135_6) == (rd t134 x135_6)) = false := beq_eq_false_iff_ne.mpr c73
                                                have c73b1 : ((rd t162 x135_6) != (rd t134 x135_6)) = true := bne_iff_ne.mpr c73
                                                obtain rfl := Option.some.inj H
                                                have p168 : 0 ≤ (x135_6 : Int) := of_decide_eq_true (by first | (with_reducible assumption) | assumption)
                                                have q168 : x135_6 < (t134.length : Int) := of_decide_eq_true (by first | (with_reducible assumption) | assumption)
                                                obtain ⟨ad168, e168, hx168_0⟩ := Kd.at_int (Kd.R_reads' HO_7.out).2.2 x135_6 p168 q168
                                                cases e168
                                                replace p168 := eq_true p168
                                                replace q168 := eq_true q168
                                                obtain ⟨Ao75, co75, eo75⟩ := Kd.R_slice HO_12.out
                                                subst eo75
                                                have p169 : 0 ≤ (x135_6 : Int) := of_decide_eq_true (by first | (with_reducible assumption) | assumption)
                                                have q169 : x135_6 < (t162.length : Int) := of_decide_eq_true (by first | (with_reducible assumption) | assumption)
                                                obtain ⟨ad169, e169, hx169_0⟩ := Kd.at_int (Kd.R_reads' HO_12.out).2.2 x135_6 p169 q169
                                                cases e169
                                                replace p169 := eq_true p169
                                                replace q169 := eq_true q169
                                                go_wp2
                                                go_ret
                                                exact ⟨by first | rfl | (simp [errW_none, errW_some] <;> rfl) | (simp [*, errW_none, errW_some] <;> rfl), by repeat (first | (with_reducible first | exact HB.out | apply below_alloc | apply pw_below_drewN | apply below_drew1) | exact HB.out)⟩
                                            · rw [if_neg c72] at H
                                              exact absurd H (by simp)
                                          · rw [if_neg c71] at H
                                            have c71b0 : (x135_6 == a2) = false := beq_eq_false_iff_ne.mpr c71
                                            have c71b1 : (x135_6 != a2) = true := bne_iff_ne.mpr c71
                                            replace H := Option.bind_eq_some_iff.mp H
                                            obtain ⟨⟨t170, t171⟩, A760, H⟩ := H
                                            replace H : ((gf16_Mul.f k6 (rd t134 x135_6) (Go.bits .xor .u16 t170 t166)).bind fun t173 => (if x135_6 < (t162.length : Int) then (if (rd t162 x135_6) = t173 then (culletlaw15_WalshGrows.l1 k6 a1 a2 t134 t162 t166 (t134.length : Int) (wrap64 (x135_6 + 1))) else (some false)) else (none))) = some r := H
                                            have A76 := Aside0.mk A760
                                            clear A760
                                            replace H := Option.bind_eq_some_iff.mp H
                                            obtain ⟨t173, A770, H⟩ := H
                                            replace H : (if x135_6 < (t162.length : Int) then (if (rd t162 x135_6) = t173 then (culletlaw15_WalshGrows.l1 k6 a1 a2 t134 t162 t166 (t134.length : Int) (wrap64 (x135_6 + 1))) else (some false)) else (none)) = some r := H
                                            have A77 := Aside0.mk A770
                                            clear A770
                                            by_cases c78 : x135_6 < (t162.length : Int)
                                            · rw [if_pos c78] at H
                                              have c78b0 : decide (x135_6 < (t162.length : Int)) = true := decide_eq_true c78
                                              clear c78
                                              by_cases c79 : (rd t162 x135_6) = t173
                                              · rw [if_pos c79] at H
                                                have c79b0 : ((rd t162 x135_6) == t173) = true := beq_iff_eq.mpr c79
                                                have c79b1 : ((rd t162 x135_6) != t173) = false := bne_eq_false_iff_eq.mpr c79
                                                clear c79
                                                have H' := Aside0.mk H
                                                clear H
                                                have p168 : 0 ≤ (x135_6 : Int) := of_decide_eq_true (by first | (with_reducible assumption) | assumption)
                                                have q168 : x135_6 < (t134.length : Int) := of_decide_eq_true (by first | (with_reducible assumption) | assumption)
                                                obtain ⟨ad168, e168, hx168_0⟩ := Kd.at_int (Kd.R_reads' HO_7.out).2.2 x135_6 p168 q168
                                                cases e168
                                                replace p168 := eq_true p168
                                                replace q168 := eq_true q168
                                                go_wp2_with (first | ((with_reducible refine gate_callee (f := 33) rfl ?_); refine goesL_ (some 147) rfl rfl Try.func33 (by kernel_rfl) rfl #[.int .i64 x135_6] rfl (by (try simp only [List.map_toArray, List.map_cons, List.map_nil]); first | done | rfl | (simp only [tb_wrap8]; done) | (simp only [tb_wrap8]; rfl) | (simp only [List.length_drop, List.length_take]; rfl)) ?_; (with_reducible refine (gf16_Element.calls x135_6 t170 t171 _ A76.out).mono ?_); rintro e w80 ⟨rfl, hb⟩; refine ⟨_, rfl, ?_⟩; have n0_ := Aside0.mk (Kd.R_below (by (with_reducible repeat (first | apply Kd.R_alloc | apply Kd.R_drewN | apply Kd.R_drew)); exact HO_7.out) hb); have n1_ := Aside0.mk (Kd.R_below (by (with_reducible repeat (first | apply Kd.R_alloc | apply Kd.R_drewN | apply Kd.R_drew)); exact HO_12.out) hb); have n2_ := Aside0.mk (below_step (by repeat (first | (with_reducible first | exact HB.out | apply below_alloc | apply pw_below_drewN | apply below_drew1) | exact HB.out)) hb); clear HO_7; clear HO_12; clear HB; have HO_7 := n0_; have HO_12 := n1_; have HB := n2_; clear n0_ n1_ n2_; (try clear hb); (try clear hb2); (try clear hk); (try clear hi); have p172 : 0 ≤ (x135_6 : Int) := of_decide_eq_true (by first | (with_reducible assumption) | assumption); have q172 : x135_6 < (t134.length : Int) := of_decide_eq_true (by first | (with_reducible assumption) | assumption); obtain ⟨ad172, e172, hx172_0⟩ := Kd.at_int (Kd.R_reads' HO_7.out).2.2 x135_6 p172 q172; obtain rfl : ad168 = ad172 := (by injection e172); replace p172 := eq_true p172; replace q172 := eq_true q172) | ((with_reducible refine gate_callee (f := 35) rfl ?_); refine goesL_ (some 157) rfl rfl Try.func35 (by kernel_rfl) rfl #[.int .u16 (rd t134 x135_6), .int .u16 (Go.bits .xor .u16 t170 t166)] rfl (by (try simp only [List.map_toArray, List.map_cons, List.map_nil]); first | done | rfl | (simp only [tb_wrap8]; done) | (simp only [tb_wrap8]; rfl) | (simp only [List.length_drop, List.length_take]; rfl)) ?_; (with_reducible refine (gf16_Mul.calls k6 (rd t134 x135_6) (Go.bits .xor .u16 t170 t166) t173 _ A77.out).mono ?_); rintro e w' ⟨rfl, ⟨nd, rfl⟩⟩; refine ⟨_, rfl, ?_⟩; obtain ⟨Ao81, co81, eo81⟩ := Kd.R_slice HO_12.out; subst eo81; have p174 : 0 ≤ (x135_6 : Int) := of_decide_eq_true (by first | (with_reducible assumption) | assumption); have q174 : x135_6 < (t162.length : Int) := of_decide_eq_true (by first | (with_reducible assumption) | assumption); obtain ⟨ad174, e174, hx174_0⟩ := Kd.at_int (Kd.R_reads' HO_12.out).2.2 x135_6 p174 q174; cases e174; replace p174 := eq_true p174; replace q174 := eq_true q174))
                                                go_roundg k6
                                                case measure => have := HJ5.out; have := HK2.out; have := HJ42.out; have := HJ47.out; have := HJ52.out; have := HK6.out; omega
                                                case rel => exact ⟨(wrap64 (x135_6 + 1)), (by first | rfl | (simp; done) | (simp [*]; done)), H', ⟨by have := HJ5.out; have := HK2.out; have := HJ42.out; have := HJ47.out; have := HJ52.out; have := HK6.out; omega⟩, ⟨by (with_reducible repeat (first | apply Kd.R_alloc | apply Kd.R_drewN | apply Kd.R_drew)); exact HO_7.out⟩, ⟨by (with_reducible repeat (first | apply Kd.R_alloc | apply Kd.R_drewN | apply Kd.R_drew)); exact HO_12.out⟩, ⟨by repeat (first | (with_reducible first | exact HB.out | apply below_alloc | apply pw_below_drewN | apply below_drew1) | exact HB.out)⟩⟩
                                              · rw [if_neg c79] at H
                                                have c79b0 : ((rd t162 x135_6) == t173) = false := beq_eq_false_iff_ne.mpr c79
                                                have c79b1 : ((rd t162 x135_6) != t173) = true := bne_iff_ne.mpr c79
                                                obtain rfl := Option.some.inj H
                                                have p168 : 0 ≤ (x135_6 : Int) := of_decide_eq_true (by first | (with_reducible assumption) | assumption)
                                                have q168 : x135_6 < (t134.length : Int) := of_decide_eq_true (by first | (with_reducible assumption) | assumption)
                                                obtain ⟨ad168, e168, hx168_0⟩ := Kd.at_int (Kd.R_reads' HO_7.out).2.2 x135_6 p168 q168
                                                cases e168
                                                replace p168 := eq_true p168
                                                replace q168 := eq_true q168
                                                go_wp2_with (first | ((with_reducible refine gate_callee (f := 33) rfl ?_); refine goesL_ (some 147) rfl rfl Try.func33 (by kernel_rfl) rfl #[.int .i64 x135_6] rfl (by (try simp only [List.map_toArray, List.map_cons, List.map_nil]); first | done | rfl | (simp only [tb_wrap8]; done) | (simp only [tb_wrap8]; rfl) | (simp only [List.length_drop, List.length_take]; rfl)) ?_; (with_reducible refine (gf16_Element.calls x135_6 t170 t171 _ A76.out).mono ?_); rintro e w82 ⟨rfl, hb⟩; refine ⟨_, rfl, ?_⟩; have n0_ := Aside0.mk (Kd.R_below (by (with_reducible repeat (first | apply Kd.R_alloc | apply Kd.R_drewN | apply Kd.R_drew)); exact HO_7.out) hb); have n1_ := Aside0.mk (Kd.R_below (by (with_reducible repeat (first | apply Kd.R_alloc | apply Kd.R_drewN | apply Kd.R_drew)); exact HO_12.out) hb); have n2_ := Aside0.mk (below_step (by repeat (first | (with_reducible first | exact HB.out | apply below_alloc | apply pw_below_drewN | apply below_drew1) | exact HB.out)) hb); clear HO_7; clear HO_12; clear HB; have HO_7 := n0_; have HO_12 := n1_; have HB := n2_; clear n0_ n1_ n2_; (try clear hb); (try clear hb2); (try clear hk); (try clear hi); have p172 : 0 ≤ (x135_6 : Int) := of_decide_eq_true (by first | (with_reducible assumption) | assumption); have q172 : x135_6 < (t134.length : Int) := of_decide_eq_true (by first | (with_reducible assumption) | assumption); obtain ⟨ad172, e172, hx172_0⟩ := Kd.at_int (Kd.R_reads' HO_7.out).2.2 x135_6 p172 q172; obtain rfl : ad168 = ad172 := (by injection e172); replace p172 := eq_true p172; replace q172 := eq_true q172) | ((with_reducible refine gate_callee (f := 35) rfl ?_); refine goesL_ (some 157) rfl rfl Try.func35 (by kernel_rfl) rfl #[.int .u16 (rd t134 x135_6), .int .u16 (Go.bits .xor .u16 t170 t166)] rfl (by (try simp only [List.map_toArray, List.map_cons, List.map_nil]); first | done | rfl | (simp only [tb_wrap8]; done) | (simp only [tb_wrap8]; rfl) | (simp only [List.length_drop, List.length_take]; rfl)) ?_; (with_reducible refine (gf16_Mul.calls k6 (rd t134 x135_6) (Go.bits .xor .u16 t170 t166) t173 _ A77.out).mono ?_); rintro e w' ⟨rfl, ⟨nd, rfl⟩⟩; refine ⟨_, rfl, ?_⟩; obtain ⟨Ao83, co83, eo83⟩ := Kd.R_slice HO_12.out; subst eo83; have p174 : 0 ≤ (x135_6 : Int) := of_decide_eq_true (by first | (with_reducible assumption) | assumption); have q174 : x135_6 < (t162.length : Int) := of_decide_eq_true (by first | (with_reducible assumption) | assumption); obtain ⟨ad174, e174, hx174_0⟩ := Kd.at_int (Kd.R_reads' HO_12.out).2.2 x135_6 p174 q174; cases e174; replace p174 := eq_true p174; replace q174 := eq_true q174))
                                                go_ret
                                                exact ⟨by first | rfl | (simp [errW_none, errW_some] <;> rfl) | (simp [*, errW_none, errW_some] <;> rfl), by repeat (first | (with_reducible first | exact HB.out | apply below_alloc | apply pw_below_drewN | apply below_drew1) | exact HB.out)⟩
                                            · rw [if_neg c78] at H
                                              exact absurd H (by simp)
                                        · rw [if_neg c70] at H
                                          exact absurd H (by simp)
                                      · rw [if_neg c69] at H
                                        exact absurd H (by simp)
                                    · rw [if_neg c68] at H
                                      have c68b0 : decide (x135_6 < (t134.length : Int)) = false := decide_eq_false c68
                                      clear c68
                                      have H' := Aside0.mk H
                                      clear H
                                      go_wp2
                                      go_loopg [20, 167] k6 (fun kq v20 v167 w' => ∃ (x20_7 : List Int) (x167_7 : Int), v167 = .int .i64 x167_7 ∧ Aside0 (culletlaw15_WalshGrows.l2 kq a1 t134 x20_7 (t134.length : Int) x167_7 = some r) ∧ Aside0 (kq ≤ k6) ∧ Aside0 (Kd.R (Kd.int .u16) 33 w' w.heap.size (fun _ => True) (.slice Ao67 t134.length co67) t134) ∧ Aside0 (Kd.R (Kd.int .i64) 3 w' w.heap.size (fun _ => True) v20 x20_7) ∧ Aside0 (Below w.heap.size w w'))
                                      case atStart => exact ⟨(([] : List Int)), (0), (by first | rfl | (simp; done) | (simp [*]; done)), H', ⟨Nat.le_refl _⟩, ⟨by (with_reducible repeat (first | apply Kd.R_alloc | apply Kd.R_drewN | apply Kd.R_drew)); exact Kd.R_mono HO_7.out (fun _ hk => trivial)⟩, ⟨by first | exact Kd.R_nil _ _ _ _ _ | exact Kd.N_nil _ _ _ _ _ | exact Kd.V_nil _ _ _ _ _ | exact Kd.Q_nil _ _ _ _ _ | exact Kd.S_nil _ _ _ _ _⟩, ⟨by repeat (first | (with_reducible first | exact HB.out | apply below_alloc | apply pw_below_drewN | apply below_drew1) | exact HB.out)⟩⟩
                                      case round =>
                                        clear H'
                                        try clear c1
                                        try clear p1
                                        try clear q1
                                        try clear hx1
                                        try clear c2
                                        try clear p2
                                        try clear c3
                                        try clear c4
                                        try clear c5
                                        try clear c6
                                        try clear p6
                                        try clear c7
                                        try clear c8
                                        try clear c8b0
                                        try clear p8
                                        try clear c9
                                        try clear c9b0
                                        try clear c10
                                        try clear c10b0
                                        try clear c11
                                        try clear c12
                                        try clear c12b0
                                        try clear c12b1
                                        try clear p13
                                        try clear q13
                                        try clear hx13
                                        try clear c14
                                        try clear p14
                                        try clear q14
                                        try clear hx14
                                        try clear p15
                                        try clear q15
                                        try clear hx15
                                        try clear p16
                                        try clear q16
                                        try clear hx16
                                        try clear c17
                                        try clear c17b0
                                        try clear c17b1
                                        try clear p17
                                        try clear q17
                                        try clear hx17
                                        try clear c21
                                        try clear c21b0
                                        try clear c22
                                        try clear c22b0
                                        try clear c23
                                        try clear c23b0
                                        try clear c24
                                        try clear c24b0
                                        try clear c24b1
                                        try clear c25
                                        try clear c25b0
                                        try clear c26
                                        try clear c26b0
                                        try clear c26b1
                                        try clear c27
                                        try clear c28
                                        try clear c32
                                        try clear c32b0
                                        try clear c33
                                        try clear c33b0
                                        try clear c34
                                        try clear c34b0
                                        try clear c35
                                        try clear c36
                                        try clear c39
                                        try clear c41
                                        try clear c44
                                        try clear c44b0
                                        try clear c44b1
                                        try clear c44b2
                                        try clear c46
                                        try clear c46b0
                                        try clear c47
                                        try clear c47b0
                                        try clear c49
                                        try clear c50
                                        try clear c56
                                        try clear c56b0
                                        try clear c56b1
                                        try clear c58
                                        try clear c58b0
                                        try clear c58b1
                                        try clear c60
                                        try clear c60b0
                                        try clear c60b1
                                        try clear c64
                                        try clear p64
                                        try clear c68
                                        try clear c68b0
                                        try clear c69
                                        try clear c69b0
                                        try clear c70
                                        try clear c70b0
                                        try clear c71
                                        try clear c71b0
                                        try clear c71b1
                                        try clear c72
                                        try clear c72b0
                                        try clear c73
                                        try clear c73b0
                                        try clear c73b1
                                        try clear c78
                                        try clear c78b0
                                        try clear c79
                                        try clear c79b0
                                        try clear c79b1
                                        try clear hx138_0
                                        try clear hx145_0
                                        try clear hx158_0
                                        try clear hx168_0
                                        try clear hx169_0
                                        try clear hx172_0
                                        try clear hx174_0
                                        try clear p1
                                        try clear p13
                                        try clear p138
                                        try clear p14
                                        try clear p145
                                        try clear p15
                                        try clear p158
                                        try clear p168
                                        try clear p169
                                        try clear p172
                                        try clear p174
                                        try clear p2
                                        try clear p6
                                        try clear p64
                                        try clear p8
                                        try clear q1
                                        try clear q13
                                        try clear q138
                                        try clear q14
                                        try clear q145
                                        try clear q15
                                        try clear q158
                                        try clear q168
                                        try clear q169
                                        try clear q172
                                        try clear q174
                                        obtain ⟨x20_7, x167_7, rfl, HA, HK7, HO_7, HO_20, HB⟩ := hrel
                                        cases gk with
                                        | zero => exact absurd HA.out (by simp [culletlaw15_WalshGrows.l2])
                                        | succ k7 =>
                                          have H := HA.out
                                          clear HA
                                          simp only [culletlaw15_WalshGrows.l2] at H
                                          by_cases c84 : x167_7 < (t134.length : Int)
                                          · rw [if_pos c84] at H
                                            have c84b0 : decide (x167_7 < (t134.length : Int)) = true := decide_eq_true c84
                                            clear c84
                                            by_cases c85 : x20_7.length < 17592186044416
                                            · rw [if_pos c85] at H
                                              have LMc85 := Aside0.mk c85
                                              clear c85
                                              obtain ⟨y175, hy175⟩ : ∃ y_ : List Int, y_ = (x20_7 ++ [x167_7]) := ⟨_, rfl⟩
                                              replace H : (culletlaw15_WalshGrows.l2 k7 a1 t134 y175 (t134.length : Int) (wrap64 (x167_7 + 1))) = some r := by first | (rw [hy175]; with_reducible exact H) | (have H2_ := (Option.bind_some _ _).symm.trans H; rw [hy175]; with_reducible exact H2_) | (have H2_ := (Option.bind_some _ _).symm.trans H; with_reducible exact H2_) | with_reducible exact H | (rw [hy175]; exact H) | exact H
                                              have Ny175 := Aside0.mk hy175
                                              clear hy175
                                              have H' := Aside0.mk H
                                              clear H
                                              go_wp2_with (first | ((with_reducible refine gate_builtin (b := .append) (xs := #[.tmp 170, .tmp 172]) rfl ?_); (try (refine gate_guard (by rfl) ?_; dsimp only)); at_builtin; refine Kd.R_append (Kd.int .i64) (w0 := w) w.heap.size rfl (.tmp 170) (.tmp 172) 35 3 (.int .i64 0) 8 rfl Try.underlying35 info3 rfl (by decide) (by omega) u20 x20_7 x167_7 [.int .i64 x167_7] (fun _ => True) (fun _ => False) rfl rfl ?aP (fun _ hk => hk.elim) ?aF ?aO ?aB ?aS ?aL ?_; (case aP => exact rfl); (case aB => exact (by repeat (first | (with_reducible first | exact HB.out | apply below_alloc | apply pw_below_drewN | apply below_drew1) | exact HB.out))); (case aF => exact (fun _ _ => trivial)); (case aO => exact (by (with_reducible repeat (first | apply Kd.R_alloc | apply Kd.R_drewN | apply Kd.R_drew)); exact HO_20.out)); (case aS => exact (below_size (by repeat (first | (with_reducible first | exact HB.out | apply below_alloc | apply pw_below_drewN | apply below_drew1) | exact HB.out)))); (case aL => have := LMc85.out; omega); intro v176 w86 ho hb hg hat; rw [← Ny175.out] at ho; have n0_ := Aside0.mk (Kd.R_over' (by (with_reducible repeat (first | apply Kd.R_alloc | apply Kd.R_drewN | apply Kd.R_drew)); exact HO_7.out) (Kd.R_typed (by (with_reducible repeat (first | apply Kd.R_alloc | apply Kd.R_drewN | apply Kd.R_drew)); exact HO_20.out)) (by decide) hg); have n1_ := Aside0.mk (hb); have n2_ := Aside0.mk (ho); clear HO_7; clear HB; clear HO_20; have HO_7 := n0_; have HB := n1_; have HO177 := n2_; clear n0_ n1_ n2_; clear ho hb hg hat))
                                              go_roundg k7
                                              case measure => have := HJ5.out; have := HK2.out; have := HJ42.out; have := HJ47.out; have := HJ52.out; have := HK6.out; have := HK7.out; omega
                                              case rel => exact ⟨(y175), (wrap64 (x167_7 + 1)), (by first | rfl | (simp; done) | (simp [*]; done)), H', ⟨by have := HJ5.out; have := HK2.out; have := HJ42.out; have := HJ47.out; have := HJ52.out; have := HK6.out; have := HK7.out; omega⟩, ⟨by (with_reducible repeat (first | apply Kd.R_alloc | apply Kd.R_drewN | apply Kd.R_drew)); exact HO_7.out⟩, ⟨by (with_reducible repeat (first | apply Kd.R_alloc | apply Kd.R_drewN | apply Kd.R_drew)); exact HO177.out⟩, ⟨by repeat (first | (with_reducible first | exact HB.out | apply below_alloc | apply pw_below_drewN | apply below_drew1) | exact HB.out)⟩⟩
                                            · rw [if_neg c85] at H
                                              exact absurd H (by simp)
                                          · rw [if_neg c84] at H
                                            have c84b0 : decide (x167_7 < (t134.length : Int)) = false := decide_eq_false c84
                                            clear c84
                                            replace H := Option.bind_eq_some_iff.mp H
                                            obtain ⟨⟨t178, t179⟩, A870, H⟩ := H
                                            replace H : (if t179 = 0 then (culletlaw15_WalshGrows.j7 k7 t178 ((t178.length : Int) != (t134.length : Int))) else (culletlaw15_WalshGrows.j7 k7 t178 true)) = some r := H
                                            have A87 := Aside0.mk A870
                                            clear A870
                                            have HC88 := Aside0.mk H
                                            clear H
                                            obtain ⟨Ao89, co89, eo89⟩ := Kd.R_slice HO_20.out
                                            subst eo89
                                            go_upto_region 41 with (first | ((with_reducible refine gate_callee (f := 26) rfl ?_); refine goesL_ (some 178) rfl rfl Try.func26 (by kernel_rfl) rfl #[.slice Ao89 x20_7.length co89, .int .i64 a1] rfl (by (try simp only [List.map_toArray, List.map_cons, List.map_nil]); first | done | rfl | (simp only [tb_wrap8]; done) | (simp only [tb_wrap8]; rfl) | (simp only [List.length_drop, List.length_take]; rfl)) ?_; (with_reducible refine (walsh_Products.calls _ _ x20_7 a1 t178 t179 _ ?side1 ?side2 A87.out).mono ?_); (case side1 => repeat (first | exact (Kd.R_reads' HO_20.out).2.2 | (with_reducible refine Kd.C_alloc ?_ _) | (with_reducible refine Kd.C_drewN ?_ _) | (with_reducible refine Kd.C_drew ?_))); (case side2 => exact (Kd.R_reads' HO_20.out).2.1); rintro e w90 ⟨v180, rfl, ho0, hb⟩; refine ⟨_, rfl, ?_⟩; have n0_ := Aside0.mk (Kd.R_elder' (by (with_reducible repeat (first | apply Kd.R_alloc | apply Kd.R_drewN | apply Kd.R_drew)); exact HO_7.out) (Kd.R_base ho0) hb); have n1_ := Aside0.mk (Kd.R_below (by (with_reducible repeat (first | apply Kd.R_alloc | apply Kd.R_drewN | apply Kd.R_drew)); exact HO_20.out) hb); have n2_ := Aside0.mk (Kd.R_lower (Kd.R_new' ho0 (Kd.R_lt (by (with_reducible repeat (first | apply Kd.R_alloc | apply Kd.R_drewN | apply Kd.R_drew)); exact HO_7.out))) (below_size (by repeat (first | (with_reducible first | exact HB.out | apply below_alloc | apply pw_below_drewN | apply below_drew1) | exact HB.out)))); have n3_ := Aside0.mk (below_step (by repeat (first | (with_reducible first | exact HB.out | apply below_alloc | apply pw_below_drewN | apply below_drew1) | exact HB.out)) hb); clear HO_7; clear HO_20; clear HB; have HO_7 := n0_; have HO_20 := n1_; have HO181 := n2_; have HB := n3_; clear n0_ n1_ n2_ n3_; (try clear hb); (try clear hb2); (try clear hk); (try clear hi); (try clear ho0)))
                                            (try simp only [Act.put, List.setIfInBounds_toArray, List.set_cons_zero, List.set_cons_succ])
                                            go_cut [189] (fun v189 wc => ∃ (kq : Nat) (x189_87 : Bool), v189 = .bool x189_87 ∧ Aside0 (culletlaw15_WalshGrows.j7 kq t178 x189_87 = some r) ∧ Aside0 (kq ≤ k7) ∧ Aside0 (Kd.R (Kd.int .u16) 33 wc w.heap.size (fun _ => True) v180 t178) ∧ Aside0 (Below w.heap.size w wc))
                                            case first => as_aux_lemma =>
                                              have H := HC88.out
                                              clear HC88
                                              by_cases c91 : t179 = 0
                                              · rw [if_pos c91] at H
                                                have c91b0 : (t179 == 0) = true := beq_iff_eq.mpr c91
                                                have c91b1 : (t179 != 0) = false := bne_eq_false_iff_eq.mpr c91
                                                clear c91
                                                (first | rw [c91b0] | (simp only [i64_w, i32_w]; rw [c91b0]) | skip)
                                                have H' := Aside0.mk H
                                                clear H
                                                obtain ⟨Ao92, co92, eo92⟩ := Kd.R_slice HO181.out
                                                subst eo92
                                                go_wp2
                                                go_meet
                                                case rel => exact ⟨_, (((t178.length : Int) != (t134.length : Int))), (by first | rfl | (simp; done) | (simp [*]; done)), H', ⟨by have := HJ5.out; have := HK2.out; have := HJ42.out; have := HJ47.out; have := HJ52.out; have := HK6.out; have := HK7.out; first | omega | exact Nat.le_refl _⟩, ⟨by (with_reducible repeat (first | apply Kd.R_alloc | apply Kd.R_drewN | apply Kd.R_drew)); exact Kd.R_mono HO181.out (fun _ hk => trivial)⟩, ⟨by repeat (first | (with_reducible first | exact HB.out | apply below_alloc | apply pw_below_drewN | apply below_drew1) | exact HB.out)⟩⟩
                                              · rw [if_neg c91] at H
                                                have c91b0 : (t179 == 0) = false := beq_eq_false_iff_ne.mpr c91
                                                have c91b1 : (t179 != 0) = true := bne_iff_ne.mpr c91
                                                (first | rw [c91b0] | (simp only [i64_w, i32_w]; rw [c91b0]) | skip)
                                                have H' := Aside0.mk H
                                                clear H
                                                go_wp2
                                                go_meet
                                                case rel => exact ⟨_, (true), (by first | rfl | (simp; done) | (simp [*]; done)), H', ⟨by have := HJ5.out; have := HK2.out; have := HJ42.out; have := HJ47.out; have := HJ52.out; have := HK6.out; have := HK7.out; first | omega | exact Nat.le_refl _⟩, ⟨by (with_reducible repeat (first | apply Kd.R_alloc | apply Kd.R_drewN | apply Kd.R_drew)); exact Kd.R_mono HO181.out (fun _ hk => trivial)⟩, ⟨by repeat (first | (with_reducible first | exact HB.out | apply below_alloc | apply pw_below_drewN | apply below_drew1) | exact HB.out)⟩⟩
                                            case rest => as_aux_lemma =>
                                              clear HC88
                                              try clear c1
                                              try clear p1
                                              try clear q1
                                              try clear hx1
                                              try clear c2
                                              try clear p2
                                              try clear c3
                                              try clear c4
                                              try clear c5
                                              try clear c6
                                              try clear p6
                                              try clear c7
                                              try clear c8
                                              try clear c8b0
                                              try clear p8
                                              try clear c9
                                              try clear c9b0
                                              try clear c10
                                              try clear c10b0
                                              try clear c11
                                              try clear c12
                                              try clear c12b0
                                              try clear c12b1
                                              try clear p13
                                              try clear q13
                                              try clear hx13
                                              try clear c14
                                              try clear p14
                                              try clear q14
                                              try clear hx14
                                              try clear p15
                                              try clear q15
                                              try clear hx15
                                              try clear p16
                                              try clear q16
                                              try clear hx16
                                              try clear c17
                                              try clear c17b0
                                              try clear c17b1
                                              try clear p17
                                              try clear q17
                                              try clear hx17
                                              try clear c21
                                              try clear c21b0
                                              try clear c22
                                              try clear c22b0
                                              try clear c23
                                              try clear c23b0
                                              try clear c24
                                              try clear c24b0
                                              try clear c24b1
                                              try clear c25
                                              try clear c25b0
                                              try clear c26
                                              try clear c26b0
                                              try clear c26b1
                                              try clear c27
                                              try clear c28
                                              try clear c32
                                              try clear c32b0
                                              try clear c33
                                              try clear c33b0
                                              try clear c34
                                              try clear c34b0
                                              try clear c35
                                              try clear c36
                                              try clear c39
                                              try clear c41
                                              try clear c44
                                              try clear c44b0
                                              try clear c44b1
                                              try clear c44b2
                                              try clear c46
                                              try clear c46b0
                                              try clear c47
                                              try clear c47b0
                                              try clear c49
                                              try clear c50
                                              try clear c56
                                              try clear c56b0
                                              try clear c56b1
                                              try clear c58
                                              try clear c58b0
                                              try clear c58b1
                                              try clear c60
                                              try clear c60b0
                                              try clear c60b1
                                              try clear c64
                                              try clear p64
                                              try clear c68
                                              try clear c68b0
                                              try clear c69
                                              try clear c69b0
                                              try clear c70
                                              try clear c70b0
                                              try clear c71
                                              try clear c71b0
                                              try clear c71b1
                                              try clear c72
                                              try clear c72b0
                                              try clear c73
                                              try clear c73b0
                                              try clear c73b1
                                              try clear c78
                                              try clear c78b0
                                              try clear c79
                                              try clear c79b0
                                              try clear c79b1
                                              try clear c84
                                              try clear c84b0
                                              try clear c85
                                              try clear c91
                                              try clear c91b0
                                              try clear c91b1
                                              try clear hx138_0
                                              try clear hx145_0
                                              try clear hx158_0
                                              try clear hx168_0
                                              try clear hx169_0
                                              try clear hx172_0
                                              try clear hx174_0
                                              try clear p1
                                              try clear p13
                                              try clear p138
                                              try clear p14
                                              try clear p145
                                              try clear p15
                                              try clear p158
                                              try clear p16
                                              try clear p168
                                              try clear p169
                                              try clear p17
                                              try clear p172
                                              try clear p174
                                              try clear p2
                                              try clear p6
                                              try clear p64
                                              try clear p8
                                              try clear q1
                                              try clear q13
                                              try clear q138
                                              try clear q14
                                              try clear q145
                                              try clear q15
                                              try clear q158
                                              try clear q16
                                              try clear q168
                                              try clear q169
                                              try clear q17
                                              try clear q172
                                              try clear q174
                                              obtain ⟨kq, x189_87, rfl, HA, HJ87, HO_22, HB⟩ := hcut
                                              cases kq with
                                              | zero => exact absurd HA.out (by simp [culletlaw15_WalshGrows.j7])
                                              | succ kj87 =>
                                                have H := HA.out
                                                clear HA
                                                simp only [culletlaw15_WalshGrows.j7] at H
                                                by_cases c93 : x189_87 = true
                                                · subst c93
                                                  have H1 : (some false) = some r := by rw [if_pos rfl] at H; exact H
                                                  clear H
                                                  have H := H1
                                                  clear H1
                                                  obtain rfl := Option.some.inj H
                                                  go_wp2
                                                  go_ret
                                                  exact ⟨by first | rfl | (simp [errW_none, errW_some] <;> rfl) | (simp [*, errW_none, errW_some] <;> rfl), by repeat (first | (with_reducible first | exact HB.out | apply below_alloc | apply pw_below_drewN | apply below_drew1) | exact HB.out)⟩
                                                · replace c93 := Bool.eq_false_iff.mpr c93
                                                  subst c93
                                                  have H1 : (culletlaw15_WalshGrows.l3 kj87 t178 (t178.length : Int) 0) = some r := by rw [if_neg (show ¬ (false = true) by decide)] at H; exact H
                                                  clear H
                                                  have H := H1
                                                  clear H1
                                                  have H' := Aside0.mk H
                                                  clear H
                                                  obtain ⟨Ao94, co94, eo94⟩ := Kd.R_slice HO_22.out
                                                  subst eo94
                                                  go_wp2
                                                  go_loopg [192] kj87 (fun kq v192 w' => ∃ (x192_9 : Int), v192 = .int .i64 x192_9 ∧ Aside0 (culletlaw15_WalshGrows.l3 kq t178 (t178.length : Int) x192_9 = some r) ∧ Aside0 (kq ≤ kj87) ∧ Aside0 (Kd.R (Kd.int .u16) 33 w' w.heap.size (fun _ => True) (.slice Ao94 t178.length co94) t178) ∧ Aside0 (Below w.heap.size w w'))
                                                  case atStart => exact ⟨(0), (by first | rfl | (simp; done) | (simp [*]; done)), H', ⟨Nat.le_refl _⟩, ⟨by (with_reducible repeat (first | apply Kd.R_alloc | apply Kd.R_drewN | apply Kd.R_drew)); exact HO_22.out⟩, ⟨by repeat (first | (with_reducible first | exact HB.out | apply below_alloc | apply pw_below_drewN | apply below_drew1) | exact HB.out)⟩⟩
                                                  case round =>
                                                    clear H'
                                                    try clear c1
                                                    try clear p1
                                                    try clear q1
                                                    try clear hx1
                                                    try clear c2
                                                    try clear p2
                                                    try clear c3
                                                    try clear c4
                                                    try clear c5
                                                    try clear c6
                                                    try clear p6
                                                    try clear c7
                                                    try clear c8
                                                    try clear c8b0
                                                    try clear p8
                                                    try clear c9
                                                    try clear c9b0
                                                    try clear c10
                                                    try clear c10b0
                                                    try clear c11
                                                    try clear c12
                                                    try clear c12b0
                                                    try clear c12b1
                                                    try clear p13
                                                    try clear q13
                                                    try clear hx13
                                                    try clear c14
                                                    try clear p14
                                                    try clear q14
                                                    try clear hx14
                                                    try clear p15
                                                    try clear q15
                                                    try clear hx15
                                                    try clear p16
                                                    try clear q16
                                                    try clear hx16
                                                    try clear c17
                                                    try clear c17b0
                                                    try clear c17b1
                                                    try clear p17
                                                    try clear q17
                                                    try clear hx17
                                                    try clear c21
                                                    try clear c21b0
                                                    try clear c22
                                                    try clear c22b0
                                                    try clear c23
                                                    try clear c23b0
                                                    try clear c24
                                                    try clear c24b0
                                                    try clear c24b1
                                                    try clear c25
                                                    try clear c25b0
                                                    try clear c26
                                                    try clear c26b0
                                                    try clear c26b1
                                                    try clear c27
                                                    try clear c28
                                                    try clear c32
                                                    try clear c32b0
                                                    try clear c33
                                                    try clear c33b0
                                                    try clear c34
                                                    try clear c34b0
                                                    try clear c35
                                                    try clear c36
                                                    try clear c39
                                                    try clear c41
                                                    try clear c44
                                                    try clear c44b0
                                                    try clear c44b1
                                                    try clear c44b2
                                                    try clear c46
                                                    try clear c46b0
                                                    try clear c47
                                                    try clear c47b0
                                                    try clear c49
                                                    try clear c50
                                                    try clear c56
                                                    try clear c56b0
                                                    try clear c56b1
                                                    try clear c58
                                                    try clear c58b0
                                                    try clear c58b1
                                                    try clear c60
                                                    try clear c60b0
                                                    try clear c60b1
                                                    try clear c64
                                                    try clear p64
                                                    try clear c68
                                                    try clear c68b0
                                                    try clear c69
                                                    try clear c69b0
                                                    try clear c70
                                                    try clear c70b0
                                                    try clear c71
                                                    try clear c71b0
                                                    try clear c71b1
                                                    try clear c72
                                                    try clear c72b0
                                                    try clear c73
                                                    try clear c73b0
                                                    try clear c73b1
                                                    try clear c78
                                                    try clear c78b0
                                                    try clear c79
                                                    try clear c79b0
                                                    try clear c79b1
                                                    try clear c84
                                                    try clear c84b0
                                                    try clear c85
                                                    try clear c91
                                                    try clear c91b0
                                                    try clear c91b1
                                                    try clear c93
                                                    try clear hx138_0
                                                    try clear hx145_0
                                                    try clear hx158_0
                                                    try clear hx168_0
                                                    try clear hx169_0
                                                    try clear hx172_0
                                                    try clear hx174_0
                                                    try clear p1
                                                    try clear p13
                                                    try clear p138
                                                    try clear p14
                                                    try clear p145
                                                    try clear p15
                                                    try clear p158
                                                    try clear p16
                                                    try clear p168
                                                    try clear p169
                                                    try clear p17
                                                    try clear p172
                                                    try clear p174
                                                    try clear p2
                                                    try clear p6
                                                    try clear p64
                                                    try clear p8
                                                    try clear q1
                                                    try clear q13
                                                    try clear q138
                                                    try clear q14
                                                    try clear q145
                                                    try clear q15
                                                    try clear q158
                                                    try clear q16
                                                    try clear q168
                                                    try clear q169
                                                    try clear q17
                                                    try clear q172
                                                    try clear q174
                                                    obtain ⟨x192_9, rfl, HA, HK9, HO_22, HB⟩ := hrel
                                                    cases gk with
                                                    | zero => exact absurd HA.out (by simp [culletlaw15_WalshGrows.l3])
                                                    | succ k9 =>
                                                      have H := HA.out
                                                      clear HA
                                                      simp only [culletlaw15_WalshGrows.l3] at H
                                                      by_cases c95 : x192_9 < (t178.length : Int)
                                                      · rw [if_pos c95] at H
                                                        have c95b0 : decide (x192_9 < (t178.length : Int)) = true := decide_eq_true c95
                                                        clear c95
                                                        by_cases c96 : 0 ≤ x192_9
                                                        · rw [if_pos c96] at H
                                                          have c96b0 : decide (0 ≤ x192_9) = true := decide_eq_true c96
                                                          clear c96
                                                          by_cases c97 : x192_9 < (t178.length : Int)
                                                          · rw [if_pos c97] at H
                                                            have c97b0 : decide (x192_9 < (t178.length : Int)) = true := decide_eq_true c97
                                                            clear c97
                                                            by_cases c98 : (rd t178 x192_9) = 1
                                                            · rw [if_pos c98] at H
                                                              have c98b0 : ((rd t178 x192_9) == 1) = true := beq_iff_eq.mpr c98
                                                              have c98b1 : ((rd t178 x192_9) != 1) = false := bne_eq_false_iff_eq.mpr c98
                                                              clear c98
                                                              have H' := Aside0.mk H
                                                              clear H
                                                              have p182 : 0 ≤ (x192_9 : Int) := of_decide_eq_true (by first | (with_reducible assumption) | assumption)
                                                              have q182 : x192_9 < (t178.length : Int) := of_decide_eq_true (by first | (with_reducible assumption) | assumption)
                                                              obtain ⟨ad182, e182, hx182_0⟩ := Kd.at_int (Kd.R_reads' HO_22.out).2.2 x192_9 p182 q182
                                                              cases e182
                                                              replace p182 := eq_true p182
                                                              replace q182 := eq_true q182
                                                              go_wp2
                                                              go_roundg k9
                                                              case measure => have := HJ5.out; have := HK2.out; have := HJ42.out; have := HJ47.out; have := HJ52.out; have := HK6.out; have := HK7.out; have := HJ87.out; have := HK9.out; omega
                                                              case rel => exact ⟨(wrap64 (x192_9 + 1)), (by first | rfl | (simp; done) | (simp [*]; done)), H', ⟨by have := HJ5.out; have := HK2.out; have := HJ42.out; have := HJ47.out; have := HJ52.out; have := HK6.out; have := HK7.out; have := HJ87.out; have := HK9.out; omega⟩, ⟨by (with_reducible repeat (first | apply Kd.R_alloc | apply Kd.R_drewN | apply Kd.R_drew)); exact HO_22.out⟩, ⟨by repeat (first | (with_reducible first | exact HB.out | apply below_alloc | apply pw_below_drewN | apply below_drew1) | exact HB.out)⟩⟩
                                                            · rw [if_neg c98] at H
                                                              have c98b0 : ((rd t178 x192_9) == 1) = false := beq_eq_false_iff_ne.mpr c98
                                                              have c98b1 : ((rd t178 x192_9) != 1) = true := bne_iff_ne.mpr c98
                                                              obtain rfl := Option.some.inj H
                                                              have p182 : 0 ≤ (x192_9 : Int) := of_decide_eq_true (by first | (with_reducible assumption) | assumption)
                                                              have q182 : x192_9 < (t178.length : Int) := of_decide_eq_true (by first | (with_reducible assumption) | assumption)
                                                              obtain ⟨ad182, e182, hx182_0⟩ := Kd.at_int (Kd.R_reads' HO_22.out).2.2 x192_9 p182 q182
                                                              cases e182
                                                              replace p182 := eq_true p182
                                                              replace q182 := eq_true q182
                                                              go_wp2
                                                              go_ret
                                                              exact ⟨by first | rfl | (simp [errW_none, errW_some] <;> rfl) | (simp [*, errW_none, errW_some] <;> rfl), by repeat (first | (with_reducible first | exact HB.out | apply below_alloc | apply pw_below_drewN | apply below_drew1) | exact HB.out)⟩
                                                          · rw [if_neg c97] at H
                                                            exact absurd H (by simp)
                                                        · rw [if_neg c96] at H
                                                          exact absurd H (by simp)
                                                      · rw [if_neg c95] at H
                                                        have c95b0 : decide (x192_9 < (t178.length : Int)) = false := decide_eq_false c95
                                                        clear c95
                                                        obtain rfl := Option.some.inj H
                                                        go_wp2
                                                        go_ret
                                                        exact ⟨by first | rfl | (simp [errW_none, errW_some] <;> rfl) | (simp [*, errW_none, errW_some] <;> rfl), by repeat (first | (with_reducible first | exact HB.out | apply below_alloc | apply pw_below_drewN | apply below_drew1) | exact HB.out)⟩
          · rw [if_neg c17] at H
            have c17b0 : (t135 == 0) = false := beq_eq_false_iff_ne.mpr c17
            have c17b1 : (t135 != 0) = true := bne_iff_ne.mpr c17
            obtain rfl := Option.some.inj H
            go_wp2_with (first | ((with_reducible refine gate_callee (f := 22) rfl ?_); refine goesL_ (some 46) rfl rfl Try.func22 (by kernel_rfl) rfl #[.slice A0 l0.length c0] rfl (by (try simp only [List.map_toArray, List.map_cons, List.map_nil]); first | done | rfl | (simp only [tb_wrap8]; done) | (simp only [tb_wrap8]; rfl) | (simp only [List.length_drop, List.length_take]; rfl)) ?_; (with_reducible refine (culletlaw15_copiedInts.calls kj5 _ _ l0 t131 _ ?side1 ?side2 A15.out).mono ?_); (case side1 => repeat (first | exact (Kd.C_below HR0.out HB.out) | (with_reducible refine Kd.C_alloc ?_ _) | (with_reducible refine Kd.C_drewN ?_ _) | (with_reducible refine Kd.C_drew ?_))); (case side2 => exact HC0.out); rintro e w99 ⟨v132, rfl, ho0, hb⟩; refine ⟨_, rfl, ?_⟩; have n0_ := Aside0.mk (Kd.R_lower ho0 (below_size (by repeat (first | (with_reducible first | exact HB.out | apply below_alloc | apply pw_below_drewN | apply below_drew1) | exact HB.out)))); have n1_ := Aside0.mk (below_step (by repeat (first | (with_reducible first | exact HB.out | apply below_alloc | apply pw_below_drewN | apply below_drew1) | exact HB.out)) hb); clear HB; have HO133 := n0_; have HB := n1_; clear n0_ n1_; (try clear hb); (try clear hb2); (try clear hk); (try clear hi); (try clear ho0); obtain ⟨Ao100, co100, eo100⟩ := Kd.R_slice HO133.out; subst eo100) | ((with_reducible refine gate_callee (f := 26) rfl ?_); refine goesL_ (some 48) rfl rfl Try.func26 (by kernel_rfl) rfl #[.slice Ao100 t131.length co100, .int .i64 a1] rfl (by (try simp only [List.map_toArray, List.map_cons, List.map_nil]); first | done | rfl | (simp only [tb_wrap8]; done) | (simp only [tb_wrap8]; rfl) | (simp only [List.length_drop, List.length_take]; rfl)) ?_; (with_reducible refine (walsh_Products.calls _ _ t131 a1 t134 t135 _ ?side1 ?side2 A16.out).mono ?_); (case side1 => repeat (first | exact (Kd.R_reads' HO133.out).2.2 | (with_reducible refine Kd.C_alloc ?_ _) | (with_reducible refine Kd.C_drewN ?_ _) | (with_reducible refine Kd.C_drew ?_))); (case side2 => exact (Kd.R_reads' HO133.out).2.1); rintro e w101 ⟨v136, rfl, ho0, hb⟩; refine ⟨_, rfl, ?_⟩; have n0_ := Aside0.mk (Kd.R_below (by (with_reducible repeat (first | apply Kd.R_alloc | apply Kd.R_drewN | apply Kd.R_drew)); exact HO133.out) hb); have n1_ := Aside0.mk (Kd.R_lower ho0 (below_size (by repeat (first | (with_reducible first | exact HB.out | apply below_alloc | apply pw_below_drewN | apply below_drew1) | exact HB.out)))); have n2_ := Aside0.mk (below_step (by repeat (first | (with_reducible first | exact HB.out | apply below_alloc | apply pw_below_drewN | apply below_drew1) | exact HB.out)) hb); clear HO133; clear HB; have HO133 := n0_; have HO137 := n1_; have HB := n2_; clear n0_ n1_ n2_; (try clear hb); (try clear hb2); (try clear hk); (try clear hi); (try clear ho0)))
            go_ret
            exact ⟨by first | rfl | (simp [errW_none, errW_some] <;> rfl) | (simp [*, errW_none, errW_some] <;> rfl), by repeat (first | (with_reducible first | exact HB.out | apply below_alloc | apply pw_below_drewN | apply below_drew1) | exact HB.out)⟩
  · replace c5 := Bool.eq_false_iff.mpr c5
    subst c5
    have H1 : (some false) = some r := by rw [if_neg (show ¬ (false = true) by decide)] at H; exact H
    clear H
    have H := H1
    clear H1
    obtain rfl := Option.some.inj H
    go_enter Try.func10, Try.ntmps10
    go_wp2_with (first | ((with_reducible refine gate_callee (f := 11) rfl ?_); refine goesL_ (some 25) rfl rfl Try.func11 (by kernel_rfl) rfl #[] rfl (by (try simp only [List.map_toArray, List.map_cons, List.map_nil]); first | done | rfl | (simp only [tb_wrap8]; done) | (simp only [tb_wrap8]; rfl) | (simp only [List.length_drop, List.length_take]; rfl)) ?_; (with_reducible refine (culletlaw15_fixed.calls k  false _ A4.out).mono ?_); rintro e w102 ⟨rfl, hb⟩; refine ⟨_, rfl, ?_⟩; have n0_ := Aside0.mk (below_step (by repeat (first | (with_reducible first | exact HB.out | apply below_alloc | apply pw_below_drewN | apply below_drew1) | exact HB.out)) hb); clear HB; have HB := n0_; clear n0_; (try clear hb); (try clear hb2); (try clear hk); (try clear hi)))
    go_ret
    exact ⟨by first | rfl | (simp [errW_none, errW_some] <;> rfl) | (simp [*, errW_none, errW_some] <;> rfl), by repeat (first | (with_reducible first | exact HB.out | apply below_alloc | apply pw_below_drewN | apply below_drew1) | exact HB.out)⟩

/-- THE ONE PURE STATEMENT of culletlaw15_WalshGrows: yours. -/
def culletlaw15_WalshGrows.Pure : Prop := ∀ (l0 : List Int) (a1 : Int) (a2 : Int), l0.length ≤ maxLen → l0.length * 8 ≤ 140737488351232 → (∀ x ∈ l0, (Lit.int .i64 x).wf = true) → (Lit.int .i64 a1).wf = true → (Lit.int .i64 a2).wf = true → ∃ k, culletlaw15_WalshGrows.f k l0 a1 a2 = some true
theorem culletlaw15_WalshGrows.walk (P : culletlaw15_WalshGrows.Pure) (a0 : Option Addr) (len0 cap0 : Nat) (z0 : List Int) (a1 : Int) (a2 : Int) (w : World) (w0 : (a0 = none ∧ len0 = 0 ∧ cap0 = 0 ∧ z0 = []) ∨ ∃ x, a0 = some x ∧ len0 ≤ cap0 ∧ cap0 ≤ maxLen ∧ z0.length = cap0 ∧ (∀ i, i < z0.length → w.cell? (x.add i) = some (.int .i64 (z0.getD i 0))) ∧ ∀ n ∈ z0, (Lit.int .i64 n).wf = true) (y0 : len0 * 8 ≤ 140737488351232) (w1 : (Lit.int .i64 a1).wf = true) (w2 : (Lit.int .i64 a2).wf = true) :
    Calls Try.prog 10 #[.slice a0 len0 cap0, .int .i64 a1, .int .i64 a2] w fun e w' => e = .returned (.bool true) ∧ Below w.heap.size w w' := by
  obtain ⟨l0, rfl, hr0, hm0, hw0, hc0⟩ := ReadsInt.ofRowC w0
  obtain ⟨k, h⟩ := P l0 a1 a2 hm0 y0 hw0 w1 w2
  refine (culletlaw15_WalshGrows.calls k _ _ l0 a1 a2 true w (Kd.C_of_reads (d := (0 : Int)) (h1 := fun _ => rfl) hr0) hc0 h).mono ?_
  rintro e w' ⟨rfl, hd⟩
  exact ⟨rfl, hd⟩

end Go.Proofs.Ytklkcenffajfeaa.Q
