import Derived.Test.YtkdoilmfchlpdaaYx0
-- Printed for this claim by mp.py, a program of its prover, through the kit's print. Lean checks it.
namespace Go.Proofs.Ytkdoilmfchlpdaa.Y
open Go.RowKit Go.Proofs.YtkdoilmfchlpdaaW.PrintWords Go.Proofs.YtkdoilmfchlpdaaW.PrintLast Go.Proofs.YtkdoilmfchlpdaaW.PrintMore Go.Proofs.Ytkdoilmfchlpdaa.A Go.Proofs.Ytkdoilmfchlpdaa.B
attribute [local go_sem] max2_int min2_int max_two min_two max_three min_three max_four min_four   -- for this text's walks alone
set_option linter.unusedVariables false
set_option linter.unusedSimpArgs false

/-! ### culletlaw11_GenerAny: function 5 -/
mutual
def culletlaw11_GenerAny.j0 : Nat → Int → Int → List Int → Int → Option (Bool)
 | 0, _, _, _, _ => none
 | k + 1, x0, x1, x2, x9 => (gener_Generator.f k x9 x0 x1).bind fun bt104 => ((culletlaw11_chosen.f k (wrap64 (x0 + x1)) x1 x2).bind fun t108 => (culletlaw11_GenerAny.l0 k x0 x1 x9 bt104.1 bt104.2 t108 ([] : List Int) 0))
def culletlaw11_GenerAny.l0 : Nat → Int → Int → Int → List (List Int) → Int → List Int → List Int → Int → Option (Bool)
 | 0, _, _, _, _, _, _, _, _ => none
 | k + 1, x0, x1, x9, x10, x11, x12, x13, x14 => if x14 < (wrap64 (x0 + x1)) then (if x13.length < 17592186044416 then (culletlaw11_GenerAny.l0 k x0 x1 x9 x10 x11 x12 (x13 ++ [x14]) (wrap64 (x14 + 1))) else (none)) else ((gener_Decoder.f k x9 x0 x1 x12 x13).bind fun bt114 => (if x11 = 0 then (if bt114.2 = 0 then (if (x10.length : Int) = (wrap64 (x0 + x1)) then (culletlaw11_GenerAny.j2 k x0 x1 x10 x12 bt114.1 ((bt114.1.length : Int) != (wrap64 (x0 + x1)))) else (culletlaw11_GenerAny.j2 k x0 x1 x10 x12 bt114.1 true)) else (culletlaw11_GenerAny.j2 k x0 x1 x10 x12 bt114.1 true)) else (culletlaw11_GenerAny.j2 k x0 x1 x10 x12 bt114.1 true)))
def culletlaw11_GenerAny.j2 : Nat → Int → Int → List (List Int) → List Int → List (List Int) → Bool → Option (Bool)
 | 0, _, _, _, _, _, _ => none
 | k + 1, x0, x1, x10, x12, x15, x85 => if x85 = true then (some false) else (culletlaw11_GenerAny.l1 k x0 x1 x10 x12 x15 0)
def culletlaw11_GenerAny.l1 : Nat → Int → Int → List (List Int) → List Int → List (List Int) → Int → Option (Bool)
 | 0, _, _, _, _, _, _ => none
 | k + 1, x0, x1, x10, x12, x15, x17 => if x17 < (wrap64 (x0 + x1)) then (if 0 ≤ x17 then (if x17 < (x10.length : Int) then (if ((rd_L1 x10 x17).length : Int) = x0 then (if x17 < (x15.length : Int) then (if ((rd_L1 x15 x17).length : Int) = x0 then (culletlaw11_GenerAny.l1 k x0 x1 x10 x12 x15 (wrap64 (x17 + 1))) else (some false)) else (none)) else (some false)) else (none)) else (none)) else (culletlaw11_GenerAny.l2 k x0 x1 x10 x12 x15 0)
def culletlaw11_GenerAny.l2 : Nat → Int → Int → List (List Int) → List Int → List (List Int) → Int → Option (Bool)
 | 0, _, _, _, _, _, _ => none
 | k + 1, x0, x1, x10, x12, x15, x18 => if x18 < (wrap64 (x0 + x1)) then (culletlaw11_GenerAny.l3 k x0 x1 x10 x12 x15 x18 0) else (culletlaw11_GenerAny.l5 k x0 x10 x12 x15 0)
def culletlaw11_GenerAny.l3 : Nat → Int → Int → List (List Int) → List Int → List (List Int) → Int → Int → Option (Bool)
 | 0, _, _, _, _, _, _, _ => none
 | k + 1, x0, x1, x10, x12, x15, x18, x19 => if x19 < x0 then (culletlaw11_GenerAny.l4 k x0 x1 x10 x12 x15 x18 x19 0 0) else (culletlaw11_GenerAny.l2 k x0 x1 x10 x12 x15 (wrap64 (x18 + 1)))
def culletlaw11_GenerAny.l4 : Nat → Int → Int → List (List Int) → List Int → List (List Int) → Int → Int → Int → Int → Option (Bool)
 | 0, _, _, _, _, _, _, _, _, _ => none
 | k + 1, x0, x1, x10, x12, x15, x18, x19, x20, x21 => if x21 < x0 then (if 0 ≤ x18 then (if x18 < (x15.length : Int) then (if 0 ≤ x21 then (if x21 < ((rd_L1 x15 x18).length : Int) then (if x21 < (x12.length : Int) then (if 0 ≤ (rd x12 x21) then (if (rd x12 x21) < (x10.length : Int) then (if 0 ≤ x19 then (if x19 < ((rd_L1 x10 (rd x12 x21)).length : Int) then ((gf8_Mul.f k (rd (rd_L1 x15 x18) x21) (rd (rd_L1 x10 (rd x12 x21)) x19)).bind fun t125 => (culletlaw11_GenerAny.l4 k x0 x1 x10 x12 x15 x18 x19 (Go.bits .xor .u8 x20 t125) (wrap64 (x21 + 1)))) else (none)) else (none)) else (none)) else (none)) else (none)) else (none)) else (none)) else (none)) else (none)) else (if 0 ≤ x18 then (if x18 < (x10.length : Int) then (if 0 ≤ x19 then (if x19 < ((rd_L1 x10 x18).length : Int) then (if x20 = (rd (rd_L1 x10 x18) x19) then (culletlaw11_GenerAny.l3 k x0 x1 x10 x12 x15 x18 (wrap64 (x19 + 1))) else (some false)) else (none)) else (none)) else (none)) else (none))
def culletlaw11_GenerAny.l5 : Nat → Int → List (List Int) → List Int → List (List Int) → Int → Option (Bool)
 | 0, _, _, _, _, _ => none
 | k + 1, x0, x10, x12, x15, x22 => if x22 < x0 then (culletlaw11_GenerAny.l6 k x0 x10 x12 x15 x22 0) else (some true)
def culletlaw11_GenerAny.l6 : Nat → Int → List (List Int) → List Int → List (List Int) → Int → Int → Option (Bool)
 | 0, _, _, _, _, _, _ => none
 | k + 1, x0, x10, x12, x15, x22, x23 => if x23 < x0 then (if 0 ≤ x22 then (if x22 < (x12.length : Int) then (if 0 ≤ (rd x12 x22) then (if (rd x12 x22) < (x15.length : Int) then (if 0 ≤ x23 then (if x23 < ((rd_L1 x15 (rd x12 x22)).length : Int) then (if (((rd (rd_L1 x15 (rd x12 x22)) x23) == 1) != (x22 == x23)) = true then (some false) else (if x22 = x23 then (if x22 < (x10.length : Int) then (if x23 < ((rd_L1 x10 x22).length : Int) then (if (((rd (rd_L1 x10 x22) x23) == 1) != (x22 == x23)) = true then (some false) else (culletlaw11_GenerAny.l6 k x0 x10 x12 x15 x22 (wrap64 (x23 + 1)))) else (none)) else (none)) else (if (rd (rd_L1 x15 (rd x12 x22)) x23) = 0 then (if x22 < (x10.length : Int) then (if x23 < ((rd_L1 x10 x22).length : Int) then (if (((rd (rd_L1 x10 x22) x23) == 1) != (x22 == x23)) = true then (some false) else (culletlaw11_GenerAny.l6 k x0 x10 x12 x15 x22 (wrap64 (x23 + 1)))) else (none)) else (none)) else (some false)))) else (none)) else (none)) else (none)) else (none)) else (none)) else (none)) else (culletlaw11_GenerAny.l5 k x0 x10 x12 x15 (wrap64 (x22 + 1)))
end
def culletlaw11_GenerAny.f (k : Nat) (a0 : Int) (a1 : Int) (l2 : List Int) (a3 : Bool) : Option (Bool) := (culletlaw11_awake.f k).bind fun t101 => (if t101 = true then ((culletlaw11_into.f a0 1 24).bind fun t102 => ((culletlaw11_into.f a1 1 24).bind fun t103 => (if a3 = true then (culletlaw11_GenerAny.j0 k t102 t103 l2 1) else (culletlaw11_GenerAny.j0 k t102 t103 l2 0)))) else (some false))
theorem culletlaw11_GenerAny.mono_l : ∀ k, (∀ y0 y1 y2 y3, LeO (culletlaw11_GenerAny.j0 k y0 y1 y2 y3) (culletlaw11_GenerAny.j0 (k + 1) y0 y1 y2 y3)) ∧ (∀ y0 y1 y2 y3 y4 y5 y6 y7, LeO (culletlaw11_GenerAny.l0 k y0 y1 y2 y3 y4 y5 y6 y7) (culletlaw11_GenerAny.l0 (k + 1) y0 y1 y2 y3 y4 y5 y6 y7)) ∧ (∀ y0 y1 y2 y3 y4 y5, LeO (culletlaw11_GenerAny.j2 k y0 y1 y2 y3 y4 y5) (culletlaw11_GenerAny.j2 (k + 1) y0 y1 y2 y3 y4 y5)) ∧ (∀ y0 y1 y2 y3 y4 y5, LeO (culletlaw11_GenerAny.l1 k y0 y1 y2 y3 y4 y5) (culletlaw11_GenerAny.l1 (k + 1) y0 y1 y2 y3 y4 y5)) ∧ (∀ y0 y1 y2 y3 y4 y5, LeO (culletlaw11_GenerAny.l2 k y0 y1 y2 y3 y4 y5) (culletlaw11_GenerAny.l2 (k + 1) y0 y1 y2 y3 y4 y5)) ∧ (∀ y0 y1 y2 y3 y4 y5 y6, LeO (culletlaw11_GenerAny.l3 k y0 y1 y2 y3 y4 y5 y6) (culletlaw11_GenerAny.l3 (k + 1) y0 y1 y2 y3 y4 y5 y6)) ∧ (∀ y0 y1 y2 y3 y4 y5 y6 y7 y8, LeO (culletlaw11_GenerAny.l4 k y0 y1 y2 y3 y4 y5 y6 y7 y8) (culletlaw11_GenerAny.l4 (k + 1) y0 y1 y2 y3 y4 y5 y6 y7 y8)) ∧ (∀ y0 y1 y2 y3 y4, LeO (culletlaw11_GenerAny.l5 k y0 y1 y2 y3 y4) (culletlaw11_GenerAny.l5 (k + 1) y0 y1 y2 y3 y4)) ∧ (∀ y0 y1 y2 y3 y4 y5, LeO (culletlaw11_GenerAny.l6 k y0 y1 y2 y3 y4 y5) (culletlaw11_GenerAny.l6 (k + 1) y0 y1 y2 y3 y4 y5))
 | 0 => ⟨fun _ _ _ _ r h => by simp [culletlaw11_GenerAny.j0] at h, fun _ _ _ _ _ _ _ _ r h => by simp [culletlaw11_GenerAny.l0] at h, fun _ _ _ _ _ _ r h => by simp [culletlaw11_GenerAny.j2] at h, fun _ _ _ _ _ _ r h => by simp [culletlaw11_GenerAny.l1] at h, fun _ _ _ _ _ _ r h => by simp [culletlaw11_GenerAny.l2] at h, fun _ _ _ _ _ _ _ r h => by simp [culletlaw11_GenerAny.l3] at h, fun _ _ _ _ _ _ _ _ _ r h => by simp [culletlaw11_GenerAny.l4] at h, fun _ _ _ _ _ r h => by simp [culletlaw11_GenerAny.l5] at h, fun _ _ _ _ _ _ r h => by simp [culletlaw11_GenerAny.l6] at h⟩
 | k + 1 => by
  obtain ⟨ih0, ih1, ih2, ih3, ih4, ih5, ih6, ih7, ih8⟩ := culletlaw11_GenerAny.mono_l k
  refine ⟨?_, ?_, ?_, ?_, ?_, ?_, ?_, ?_, ?_⟩
  ·intro y0 y1 y2 y3
   unfold culletlaw11_GenerAny.j0
   repeat' first
   | (with_reducible exact ih0 _ _ _ _)
   | (with_reducible exact ih1 _ _ _ _ _ _ _ _)
   | (with_reducible exact ih2 _ _ _ _ _ _)
   | (with_reducible exact ih3 _ _ _ _ _ _)
   | (with_reducible exact ih4 _ _ _ _ _ _)
   | (with_reducible exact ih5 _ _ _ _ _ _ _)
   | (with_reducible exact ih6 _ _ _ _ _ _ _ _ _)
   | (with_reducible exact ih7 _ _ _ _ _)
   | (with_reducible exact ih8 _ _ _ _ _ _)
   | (with_reducible exact culletlaw11_awake.mono _)
   | (with_reducible exact culletlaw11_chosen.mono _ _ _ _)
   | (with_reducible exact gener_Decoder.mono _ _ _ _ _ _)
   | (with_reducible exact gener_Generator.mono _ _ _ _)
   | (with_reducible exact gf8_Mul.mono _ _ _)
   | (with_reducible exact LeO.refl _)
   | (with_reducible exact LeO.none _)
   | (with_reducible refine LeO.ite ?_ ?_)
   | (with_reducible refine LeO.bind ?_ (fun _ => ?_))
   | exact ih0 _ _ _ _
   | exact ih1 _ _ _ _ _ _ _ _
   | exact ih2 _ _ _ _ _ _
   | exact ih3 _ _ _ _ _ _
   | exact ih4 _ _ _ _ _ _
   | exact ih5 _ _ _ _ _ _ _
   | exact ih6 _ _ _ _ _ _ _ _ _
   | exact ih7 _ _ _ _ _
   | exact ih8 _ _ _ _ _ _
   | exact culletlaw11_awake.mono _
   | exact culletlaw11_chosen.mono _ _ _ _
   | exact gener_Decoder.mono _ _ _ _ _ _
   | exact gener_Generator.mono _ _ _ _
   | exact gf8_Mul.mono _ _ _
   | exact LeO.none _
   | refine LeO.ite ?_ ?_
   | refine LeO.bind ?_ (fun _ => ?_)
  ·intro y0 y1 y2 y3 y4 y5 y6 y7
   unfold culletlaw11_GenerAny.l0
   repeat' first
   | (with_reducible exact ih0 _ _ _ _)
   | (with_reducible exact ih1 _ _ _ _ _ _ _ _)
   | (with_reducible exact ih2 _ _ _ _ _ _)
   | (with_reducible exact ih3 _ _ _ _ _ _)
   | (with_reducible exact ih4 _ _ _ _ _ _)
   | (with_reducible exact ih5 _ _ _ _ _ _ _)
   | (with_reducible exact ih6 _ _ _ _ _ _ _ _ _)
   | (with_reducible exact ih7 _ _ _ _ _)
   | (with_reducible exact ih8 _ _ _ _ _ _)
   | (with_reducible exact culletlaw11_awake.mono _)
   | (with_reducible exact culletlaw11_chosen.mono _ _ _ _)
   | (with_reducible exact gener_Decoder.mono _ _ _ _ _ _)
   | (with_reducible exact gener_Generator.mono _ _ _ _)
   | (with_reducible exact gf8_Mul.mono _ _ _)
   | (with_reducible exact LeO.refl _)
   | (with_reducible exact LeO.none _)
   | (with_reducible refine LeO.ite ?_ ?_)
   | (with_reducible refine LeO.bind ?_ (fun _ => ?_))
   | exact ih0 _ _ _ _
   | exact ih1 _ _ _ _ _ _ _ _
   | exact ih2 _ _ _ _ _ _
   | exact ih3 _ _ _ _ _ _
   | exact ih4 _ _ _ _ _ _
   | exact ih5 _ _ _ _ _ _ _
   | exact ih6 _ _ _ _ _ _ _ _ _
   | exact ih7 _ _ _ _ _
   | exact ih8 _ _ _ _ _ _
   | exact culletlaw11_awake.mono _
   | exact culletlaw11_chosen.mono _ _ _ _
   | exact gener_Decoder.mono _ _ _ _ _ _
   | exact gener_Generator.mono _ _ _ _
   | exact gf8_Mul.mono _ _ _
   | exact LeO.none _
   | refine LeO.ite ?_ ?_
   | refine LeO.bind ?_ (fun _ => ?_)
  ·intro y0 y1 y2 y3 y4 y5
   unfold culletlaw11_GenerAny.j2
   repeat' first
   | (with_reducible exact ih0 _ _ _ _)
   | (with_reducible exact ih1 _ _ _ _ _ _ _ _)
   | (with_reducible exact ih2 _ _ _ _ _ _)
   | (with_reducible exact ih3 _ _ _ _ _ _)
   | (with_reducible exact ih4 _ _ _ _ _ _)
   | (with_reducible exact ih5 _ _ _ _ _ _ _)
   | (with_reducible exact ih6 _ _ _ _ _ _ _ _ _)
   | (with_reducible exact ih7 _ _ _ _ _)
   | (with_reducible exact ih8 _ _ _ _ _ _)
   | (with_reducible exact culletlaw11_awake.mono _)
   | (with_reducible exact culletlaw11_chosen.mono _ _ _ _)
   | (with_reducible exact gener_Decoder.mono _ _ _ _ _ _)
   | (with_reducible exact gener_Generator.mono _ _ _ _)
   | (with_reducible exact gf8_Mul.mono _ _ _)
   | (with_reducible exact LeO.refl _)
   | (with_reducible exact LeO.none _)
   | (with_reducible refine LeO.ite ?_ ?_)
   | (with_reducible refine LeO.bind ?_ (fun _ => ?_))
   | exact ih0 _ _ _ _
   | exact ih1 _ _ _ _ _ _ _ _
   | exact ih2 _ _ _ _ _ _
   | exact ih3 _ _ _ _ _ _
   | exact ih4 _ _ _ _ _ _
   | exact ih5 _ _ _ _ _ _ _
   | exact ih6 _ _ _ _ _ _ _ _ _
   | exact ih7 _ _ _ _ _
   | exact ih8 _ _ _ _ _ _
   | exact culletlaw11_awake.mono _
   | exact culletlaw11_chosen.mono _ _ _ _
   | exact gener_Decoder.mono _ _ _ _ _ _
   | exact gener_Generator.mono _ _ _ _
   | exact gf8_Mul.mono _ _ _
   | exact LeO.none _
   | refine LeO.ite ?_ ?_
   | refine LeO.bind ?_ (fun _ => ?_)
  ·intro y0 y1 y2 y3 y4 y5
   unfold culletlaw11_GenerAny.l1
   repeat' first
   | (with_reducible exact ih0 _ _ _ _)
   | (with_reducible exact ih1 _ _ _ _ _ _ _ _)
   | (with_reducible exact ih2 _ _ _ _ _ _)
   | (with_reducible exact ih3 _ _ _ _ _ _)
   | (with_reducible exact ih4 _ _ _ _ _ _)
   | (with_reducible exact ih5 _ _ _ _ _ _ _)
   | (with_reducible exact ih6 _ _ _ _ _ _ _ _ _)
   | (with_reducible exact ih7 _ _ _ _ _)
   | (with_reducible exact ih8 _ _ _ _ _ _)
   | (with_reducible exact culletlaw11_awake.mono _)
   | (with_reducible exact culletlaw11_chosen.mono _ _ _ _)
   | (with_reducible exact gener_Decoder.mono _ _ _ _ _ _)
   | (with_reducible exact gener_Generator.mono _ _ _ _)
   | (with_reducible exact gf8_Mul.mono _ _ _)
   | (with_reducible exact LeO.refl _)
   | (with_reducible exact LeO.none _)
   | (with_reducible refine LeO.ite ?_ ?_)
   | (with_reducible refine LeO.bind ?_ (fun _ => ?_))
   | exact ih0 _ _ _ _
   | exact ih1 _ _ _ _ _ _ _ _
   | exact ih2 _ _ _ _ _ _
   | exact ih3 _ _ _ _ _ _
   | exact ih4 _ _ _ _ _ _
   | exact ih5 _ _ _ _ _ _ _
   | exact ih6 _ _ _ _ _ _ _ _ _
   | exact ih7 _ _ _ _ _
   | exact ih8 _ _ _ _ _ _
   | exact culletlaw11_awake.mono _
   | exact culletlaw11_chosen.mono _ _ _ _
   | exact gener_Decoder.mono _ _ _ _ _ _
   | exact gener_Generator.mono _ _ _ _
   | exact gf8_Mul.mono _ _ _
   | exact LeO.none _
   | refine LeO.ite ?_ ?_
   | refine LeO.bind ?_ (fun _ => ?_)
  ·intro y0 y1 y2 y3 y4 y5
   unfold culletlaw11_GenerAny.l2
   repeat' first
   | (with_reducible exact ih0 _ _ _ _)
   | (with_reducible exact ih1 _ _ _ _ _ _ _ _)
   | (with_reducible exact ih2 _ _ _ _ _ _)
   | (with_reducible exact ih3 _ _ _ _ _ _)
   | (with_reducible exact ih4 _ _ _ _ _ _)
   | (with_reducible exact ih5 _ _ _ _ _ _ _)
   | (with_reducible exact ih6 _ _ _ _ _ _ _ _ _)
   | (with_reducible exact ih7 _ _ _ _ _)
   | (with_reducible exact ih8 _ _ _ _ _ _)
   | (with_reducible exact culletlaw11_awake.mono _)
   | (with_reducible exact culletlaw11_chosen.mono _ _ _ _)
   | (with_reducible exact gener_Decoder.mono _ _ _ _ _ _)
   | (with_reducible exact gener_Generator.mono _ _ _ _)
   | (with_reducible exact gf8_Mul.mono _ _ _)
   | (with_reducible exact LeO.refl _)
   | (with_reducible exact LeO.none _)
   | (with_reducible refine LeO.ite ?_ ?_)
   | (with_reducible refine LeO.bind ?_ (fun _ => ?_))
   | exact ih0 _ _ _ _
   | exact ih1 _ _ _ _ _ _ _ _
   | exact ih2 _ _ _ _ _ _
   | exact ih3 _ _ _ _ _ _
   | exact ih4 _ _ _ _ _ _
   | exact ih5 _ _ _ _ _ _ _
   | exact ih6 _ _ _ _ _ _ _ _ _
   | exact ih7 _ _ _ _ _
   | exact ih8 _ _ _ _ _ _
   | exact culletlaw11_awake.mono _
   | exact culletlaw11_chosen.mono _ _ _ _
   | exact gener_Decoder.mono _ _ _ _ _ _
   | exact gener_Generator.mono _ _ _ _
   | exact gf8_Mul.mono _ _ _
   | exact LeO.none _
   | refine LeO.ite ?_ ?_
   | refine LeO.bind ?_ (fun _ => ?_)
  ·intro y0 y1 y2 y3 y4 y5 y6
   unfold culletlaw11_GenerAny.l3
   repeat' first
   | (with_reducible exact ih0 _ _ _ _)
   | (with_reducible exact ih1 _ _ _ _ _ _ _ _)
   | (with_reducible exact ih2 _ _ _ _ _ _)
   | (with_reducible exact ih3 _ _ _ _ _ _)
   | (with_reducible exact ih4 _ _ _ _ _ _)
   | (with_reducible exact ih5 _ _ _ _ _ _ _)
   | (with_reducible exact ih6 _ _ _ _ _ _ _ _ _)
   | (with_reducible exact ih7 _ _ _ _ _)
   | (with_reducible exact ih8 _ _ _ _ _ _)
   | (with_reducible exact culletlaw11_awake.mono _)
   | (with_reducible exact culletlaw11_chosen.mono _ _ _ _)
   | (with_reducible exact gener_Decoder.mono _ _ _ _ _ _)
   | (with_reducible exact gener_Generator.mono _ _ _ _)
   | (with_reducible exact gf8_Mul.mono _ _ _)
   | (with_reducible exact LeO.refl _)
   | (with_reducible exact LeO.none _)
   | (with_reducible refine LeO.ite ?_ ?_)
   | (with_reducible refine LeO.bind ?_ (fun _ => ?_))
   | exact ih0 _ _ _ _
   | exact ih1 _ _ _ _ _ _ _ _
   | exact ih2 _ _ _ _ _ _
   | exact ih3 _ _ _ _ _ _
   | exact ih4 _ _ _ _ _ _
   | exact ih5 _ _ _ _ _ _ _
   | exact ih6 _ _ _ _ _ _ _ _ _
   | exact ih7 _ _ _ _ _
   | exact ih8 _ _ _ _ _ _
   | exact culletlaw11_awake.mono _
   | exact culletlaw11_chosen.mono _ _ _ _
   | exact gener_Decoder.mono _ _ _ _ _ _
   | exact gener_Generator.mono _ _ _ _
   | exact gf8_Mul.mono _ _ _
   | exact LeO.none _
   | refine LeO.ite ?_ ?_
   | refine LeO.bind ?_ (fun _ => ?_)
  ·intro y0 y1 y2 y3 y4 y5 y6 y7 y8
   unfold culletlaw11_GenerAny.l4
   repeat' first
   | (with_reducible exact ih0 _ _ _ _)
   | (with_reducible exact ih1 _ _ _ _ _ _ _ _)
   | (with_reducible exact ih2 _ _ _ _ _ _)
   | (with_reducible exact ih3 _ _ _ _ _ _)
   | (with_reducible exact ih4 _ _ _ _ _ _)
   | (with_reducible exact ih5 _ _ _ _ _ _ _)
   | (with_reducible exact ih6 _ _ _ _ _ _ _ _ _)
   | (with_reducible exact ih7 _ _ _ _ _)
   | (with_reducible exact ih8 _ _ _ _ _ _)
   | (with_reducible exact culletlaw11_awake.mono _)
   | (with_reducible exact culletlaw11_chosen.mono _ _ _ _)
   | (with_reducible exact gener_Decoder.mono _ _ _ _ _ _)
   | (with_reducible exact gener_Generator.mono _ _ _ _)
   | (with_reducible exact gf8_Mul.mono _ _ _)
   | (with_reducible exact LeO.refl _)
   | (with_reducible exact LeO.none _)
   | (with_reducible refine LeO.ite ?_ ?_)
   | (with_reducible refine LeO.bind ?_ (fun _ => ?_))
   | exact ih0 _ _ _ _
   | exact ih1 _ _ _ _ _ _ _ _
   | exact ih2 _ _ _ _ _ _
   | exact ih3 _ _ _ _ _ _
   | exact ih4 _ _ _ _ _ _
   | exact ih5 _ _ _ _ _ _ _
   | exact ih6 _ _ _ _ _ _ _ _ _
   | exact ih7 _ _ _ _ _
   | exact ih8 _ _ _ _ _ _
   | exact culletlaw11_awake.mono _
   | exact culletlaw11_chosen.mono _ _ _ _
   | exact gener_Decoder.mono _ _ _ _ _ _
   | exact gener_Generator.mono _ _ _ _
   | exact gf8_Mul.mono _ _ _
   | exact LeO.none _
   | refine LeO.ite ?_ ?_
   | refine LeO.bind ?_ (fun _ => ?_)
  ·intro y0 y1 y2 y3 y4
   unfold culletlaw11_GenerAny.l5
   repeat' first
   | (with_reducible exact ih0 _ _ _ _)
   | (with_reducible exact ih1 _ _ _ _ _ _ _ _)
   | (with_reducible exact ih2 _ _ _ _ _ _)
   | (with_reducible exact ih3 _ _ _ _ _ _)
   | (with_reducible exact ih4 _ _ _ _ _ _)
   | (with_reducible exact ih5 _ _ _ _ _ _ _)
   | (with_reducible exact ih6 _ _ _ _ _ _ _ _ _)
   | (with_reducible exact ih7 _ _ _ _ _)
   | (with_reducible exact ih8 _ _ _ _ _ _)
   | (with_reducible exact culletlaw11_awake.mono _)
   | (with_reducible exact culletlaw11_chosen.mono _ _ _ _)
   | (with_reducible exact gener_Decoder.mono _ _ _ _ _ _)
   | (with_reducible exact gener_Generator.mono _ _ _ _)
   | (with_reducible exact gf8_Mul.mono _ _ _)
   | (with_reducible exact LeO.refl _)
   | (with_reducible exact LeO.none _)
   | (with_reducible refine LeO.ite ?_ ?_)
   | (with_reducible refine LeO.bind ?_ (fun _ => ?_))
   | exact ih0 _ _ _ _
   | exact ih1 _ _ _ _ _ _ _ _
   | exact ih2 _ _ _ _ _ _
   | exact ih3 _ _ _ _ _ _
   | exact ih4 _ _ _ _ _ _
   | exact ih5 _ _ _ _ _ _ _
   | exact ih6 _ _ _ _ _ _ _ _ _
   | exact ih7 _ _ _ _ _
   | exact ih8 _ _ _ _ _ _
   | exact culletlaw11_awake.mono _
   | exact culletlaw11_chosen.mono _ _ _ _
   | exact gener_Decoder.mono _ _ _ _ _ _
   | exact gener_Generator.mono _ _ _ _
   | exact gf8_Mul.mono _ _ _
   | exact LeO.none _
   | refine LeO.ite ?_ ?_
   | refine LeO.bind ?_ (fun _ => ?_)
  ·intro y0 y1 y2 y3 y4 y5
   unfold culletlaw11_GenerAny.l6
   repeat' first
   | (with_reducible exact ih0 _ _ _ _)
   | (with_reducible exact ih1 _ _ _ _ _ _ _ _)
   | (with_reducible exact ih2 _ _ _ _ _ _)
   | (with_reducible exact ih3 _ _ _ _ _ _)
   | (with_reducible exact ih4 _ _ _ _ _ _)
   | (with_reducible exact ih5 _ _ _ _ _ _ _)
   | (with_reducible exact ih6 _ _ _ _ _ _ _ _ _)
   | (with_reducible exact ih7 _ _ _ _ _)
   | (with_reducible exact ih8 _ _ _ _ _ _)
   | (with_reducible exact culletlaw11_awake.mono _)
   | (with_reducible exact culletlaw11_chosen.mono _ _ _ _)
   | (with_reducible exact gener_Decoder.mono _ _ _ _ _ _)
   | (with_reducible exact gener_Generator.mono _ _ _ _)
   | (with_reducible exact gf8_Mul.mono _ _ _)
   | (with_reducible exact LeO.refl _)
   | (with_reducible exact LeO.none _)
   | (with_reducible refine LeO.ite ?_ ?_)
   | (with_reducible refine LeO.bind ?_ (fun _ => ?_))
   | exact ih0 _ _ _ _
   | exact ih1 _ _ _ _ _ _ _ _
   | exact ih2 _ _ _ _ _ _
   | exact ih3 _ _ _ _ _ _
   | exact ih4 _ _ _ _ _ _
   | exact ih5 _ _ _ _ _ _ _
   | exact ih6 _ _ _ _ _ _ _ _ _
   | exact ih7 _ _ _ _ _
   | exact ih8 _ _ _ _ _ _
   | exact culletlaw11_awake.mono _
   | exact culletlaw11_chosen.mono _ _ _ _
   | exact gener_Decoder.mono _ _ _ _ _ _
   | exact gener_Generator.mono _ _ _ _
   | exact gf8_Mul.mono _ _ _
   | exact LeO.none _
   | refine LeO.ite ?_ ?_
   | refine LeO.bind ?_ (fun _ => ?_)
theorem culletlaw11_GenerAny.mono : ∀ a0 a1 a2 a3 k, LeO (culletlaw11_GenerAny.f k a0 a1 a2 a3) (culletlaw11_GenerAny.f (k + 1) a0 a1 a2 a3) := by
 intro a0 a1 a2 a3 k
 obtain ⟨ih0, ih1, ih2, ih3, ih4, ih5, ih6, ih7, ih8⟩ := culletlaw11_GenerAny.mono_l k
 unfold culletlaw11_GenerAny.f
 repeat' first
   | (with_reducible exact ih0 _ _ _ _)
   | (with_reducible exact ih1 _ _ _ _ _ _ _ _)
   | (with_reducible exact ih2 _ _ _ _ _ _)
   | (with_reducible exact ih3 _ _ _ _ _ _)
   | (with_reducible exact ih4 _ _ _ _ _ _)
   | (with_reducible exact ih5 _ _ _ _ _ _ _)
   | (with_reducible exact ih6 _ _ _ _ _ _ _ _ _)
   | (with_reducible exact ih7 _ _ _ _ _)
   | (with_reducible exact ih8 _ _ _ _ _ _)
   | (with_reducible exact culletlaw11_awake.mono _)
   | (with_reducible exact culletlaw11_chosen.mono _ _ _ _)
   | (with_reducible exact gener_Decoder.mono _ _ _ _ _ _)
   | (with_reducible exact gener_Generator.mono _ _ _ _)
   | (with_reducible exact gf8_Mul.mono _ _ _)
   | (with_reducible exact LeO.refl _)
   | (with_reducible exact LeO.none _)
   | (with_reducible refine LeO.ite ?_ ?_)
   | (with_reducible refine LeO.bind ?_ (fun _ => ?_))
   | exact ih0 _ _ _ _
   | exact ih1 _ _ _ _ _ _ _ _
   | exact ih2 _ _ _ _ _ _
   | exact ih3 _ _ _ _ _ _
   | exact ih4 _ _ _ _ _ _
   | exact ih5 _ _ _ _ _ _ _
   | exact ih6 _ _ _ _ _ _ _ _ _
   | exact ih7 _ _ _ _ _
   | exact ih8 _ _ _ _ _ _
   | exact culletlaw11_awake.mono _
   | exact culletlaw11_chosen.mono _ _ _ _
   | exact gener_Decoder.mono _ _ _ _ _ _
   | exact gener_Generator.mono _ _ _ _
   | exact gf8_Mul.mono _ _ _
   | exact LeO.none _
   | refine LeO.ite ?_ ?_
   | refine LeO.bind ?_ (fun _ => ?_)
set_option maxHeartbeats 8000000 in
set_option maxRecDepth 100000 in
theorem culletlaw11_GenerAny.calls (k : Nat) (a0 : Int) (a1 : Int) (A2 : Option Addr) (c2 : Nat) (l2 : List Int) (a3 : Bool) (r : Bool) (w : World) (hr2 : Kd.C (Kd.int .i64) w A2 l2.length l2) (hc2 : l2.length ≤ c2) (h : culletlaw11_GenerAny.f k a0 a1 l2 a3 = some r) :
  Calls Try.prog 5 #[.int .i64 a0, .int .i64 a1, .slice A2 l2.length c2, .bool a3] w fun e w' => e = .returned (.bool r) ∧ Below w.heap.size w w' := by
 have HR2 := Aside0.mk hr2
 have HC2 := Aside0.mk hc2
 clear hr2 hc2
 have HB := Aside0.mk (Below.refl w.heap.size w)
 have H : ((culletlaw11_awake.f k).bind fun t101 => (if t101 = true then ((culletlaw11_into.f a0 1 24).bind fun t102 => ((culletlaw11_into.f a1 1 24).bind fun t103 => (if a3 = true then (culletlaw11_GenerAny.j0 k t102 t103 l2 1) else (culletlaw11_GenerAny.j0 k t102 t103 l2 0)))) else (some false))) = some r := h
 clear h
 replace H := Option.bind_eq_some_iff.mp H
 obtain ⟨t101, A50, H⟩ := H
 replace H : (if t101 = true then ((culletlaw11_into.f a0 1 24).bind fun t102 => ((culletlaw11_into.f a1 1 24).bind fun t103 => (if a3 = true then (culletlaw11_GenerAny.j0 k t102 t103 l2 1) else (culletlaw11_GenerAny.j0 k t102 t103 l2 0)))) else (some false)) = some r := H
 have A5 := Aside0.mk A50
 clear A50
 by_cases c6 : t101 = true
 ·subst c6
  have H1 : ((culletlaw11_into.f a0 1 24).bind fun t102 => ((culletlaw11_into.f a1 1 24).bind fun t103 => (if a3 = true then (culletlaw11_GenerAny.j0 k t102 t103 l2 1) else (culletlaw11_GenerAny.j0 k t102 t103 l2 0)))) = some r := by rw [if_pos rfl] at H; exact H
  clear H
  have H := H1
  clear H1
  replace H := Option.bind_eq_some_iff.mp H
  obtain ⟨t102, A70, H⟩ := H
  replace H : ((culletlaw11_into.f a1 1 24).bind fun t103 => (if a3 = true then (culletlaw11_GenerAny.j0 k t102 t103 l2 1) else (culletlaw11_GenerAny.j0 k t102 t103 l2 0))) = some r := H
  have A7 := Aside0.mk A70
  clear A70
  replace H := Option.bind_eq_some_iff.mp H
  obtain ⟨t103, A80, H⟩ := H
  replace H : (if a3 = true then (culletlaw11_GenerAny.j0 k t102 t103 l2 1) else (culletlaw11_GenerAny.j0 k t102 t103 l2 0)) = some r := H
  have A8 := Aside0.mk A80
  clear A80
  have HC9 := Aside0.mk H
  clear H
  go_enter Try.func5, Try.ntmps5
  go_upto_if 30 with (first | (go_at_call 15; (with_reducible refine (culletlaw11_awake.calls k  true _ A5.out).mono ?_); rintro e w10 ⟨rfl, hb⟩; have n0_ := Aside0.mk (below_step (by repeat (first | (with_reducible first | exact HB.out | apply below_alloc | apply pw_below_drewN | apply below_drew1) | exact HB.out)) hb); clear HB; have HB := n0_; clear n0_; (try clear hb); (try clear hb2); (try clear hk); (try clear hi)) | (go_at_call 16; (with_reducible refine (culletlaw11_into.calls a0 1 24 t102 _ A7.out).mono ?_); rintro e w' ⟨rfl, ⟨nd, rfl⟩⟩; (try first | exact ⟨rfl, _, World.drewN_drewN _ _ _⟩ | exact ⟨rfl, _, Eq.trans (World.drewN_drewN _ _ _) (congrArg (World.drewN _) (Nat.add_assoc _ _ _))⟩)) | (go_at_call 16; (with_reducible refine (culletlaw11_into.calls a1 1 24 t103 _ A8.out).mono ?_); rintro e w' ⟨rfl, ⟨nd, rfl⟩⟩; (try first | exact ⟨rfl, _, World.drewN_drewN _ _ _⟩ | exact ⟨rfl, _, Eq.trans (World.drewN_drewN _ _ _) (congrArg (World.drewN _) (Nat.add_assoc _ _ _))⟩)))
  repeat (go_quiet (first | (go_at_call 15; (with_reducible refine (culletlaw11_awake.calls k  true _ A5.out).mono ?_); rintro e w10 ⟨rfl, hb⟩; have n0_ := Aside0.mk (below_step (by repeat (first | (with_reducible first | exact HB.out | apply below_alloc | apply pw_below_drewN | apply below_drew1) | exact HB.out)) hb); clear HB; have HB := n0_; clear n0_; (try clear hb); (try clear hb2); (try clear hk); (try clear hi)) | (go_at_call 16; (with_reducible refine (culletlaw11_into.calls a0 1 24 t102 _ A7.out).mono ?_); rintro e w' ⟨rfl, ⟨nd, rfl⟩⟩; (try first | exact ⟨rfl, _, World.drewN_drewN _ _ _⟩ | exact ⟨rfl, _, Eq.trans (World.drewN_drewN _ _ _) (congrArg (World.drewN _) (Nat.add_assoc _ _ _))⟩)) | (go_at_call 16; (with_reducible refine (culletlaw11_into.calls a1 1 24 t103 _ A8.out).mono ?_); rintro e w' ⟨rfl, ⟨nd, rfl⟩⟩; (try first | exact ⟨rfl, _, World.drewN_drewN _ _ _⟩ | exact ⟨rfl, _, Eq.trans (World.drewN_drewN _ _ _) (congrArg (World.drewN _) (Nat.add_assoc _ _ _))⟩))); go_upto_if 30 with (first | (go_at_call 15; (with_reducible refine (culletlaw11_awake.calls k  true _ A5.out).mono ?_); rintro e w10 ⟨rfl, hb⟩; have n0_ := Aside0.mk (below_step (by repeat (first | (with_reducible first | exact HB.out | apply below_alloc | apply pw_below_drewN | apply below_drew1) | exact HB.out)) hb); clear HB; have HB := n0_; clear n0_; (try clear hb); (try clear hb2); (try clear hk); (try clear hi)) | (go_at_call 16; (with_reducible refine (culletlaw11_into.calls a0 1 24 t102 _ A7.out).mono ?_); rintro e w' ⟨rfl, ⟨nd, rfl⟩⟩; (try first | exact ⟨rfl, _, World.drewN_drewN _ _ _⟩ | exact ⟨rfl, _, Eq.trans (World.drewN_drewN _ _ _) (congrArg (World.drewN _) (Nat.add_assoc _ _ _))⟩)) | (go_at_call 16; (with_reducible refine (culletlaw11_into.calls a1 1 24 t103 _ A8.out).mono ?_); rintro e w' ⟨rfl, ⟨nd, rfl⟩⟩; (try first | exact ⟨rfl, _, World.drewN_drewN _ _ _⟩ | exact ⟨rfl, _, Eq.trans (World.drewN_drewN _ _ _) (congrArg (World.drewN _) (Nat.add_assoc _ _ _))⟩))))
  (try simp only [Act.put, List.setIfInBounds_toArray, List.set_cons_zero, List.set_cons_succ])
  go_cut [9] (fun v9 wc => ∃ (kq : Nat) (x9_8 : Int), v9 = .int .i64 x9_8 ∧ Aside0 (culletlaw11_GenerAny.j0 kq t102 t103 l2 x9_8 = some r) ∧ Aside0 (kq ≤ k) ∧ Aside0 (Below w.heap.size w wc))
  case first => as_aux_lemma =>
   have H := HC9.out
   clear HC9
   by_cases c11 : a3 = true
   ·subst c11
    have H1 : (culletlaw11_GenerAny.j0 k t102 t103 l2 1) = some r := by rw [if_pos rfl] at H; exact H
    clear H
    have H := H1
    clear H1
    have H' := Aside0.mk H
    clear H
    go_wp2
    repeat (go_quiet (fail); try go_wp2)
    go_meet
    case rel => exact ⟨_, (1), (by first | rfl | (simp; done) | (simp [*]; done)), H', ⟨by first | omega | exact Nat.le_refl _⟩, ⟨by repeat (first | (with_reducible first | exact HB.out | apply below_alloc | apply pw_below_drewN | apply below_drew1) | exact HB.out)⟩⟩
   ·replace c11 := Bool.eq_false_iff.mpr c11
    subst c11
    have H1 : (culletlaw11_GenerAny.j0 k t102 t103 l2 0) = some r := by rw [if_neg (show ¬ (false = true) by decide)] at H; exact H
    clear H
    have H := H1
    clear H1
    have H' := Aside0.mk H
    clear H
    go_wp2
    repeat (go_quiet (fail); try go_wp2)
    go_meet
    case rel => exact ⟨_, (0), (by first | rfl | (simp; done) | (simp [*]; done)), H', ⟨by first | omega | exact Nat.le_refl _⟩, ⟨by repeat (first | (with_reducible first | exact HB.out | apply below_alloc | apply pw_below_drewN | apply below_drew1) | exact HB.out)⟩⟩
  case rest => as_aux_lemma =>
   clear HC9
   try clear c1
   try clear c2
   try clear p2
   try clear c5
   try clear c6
   try clear c11
   obtain ⟨kq, x9_8, rfl, HA, HJ8, HB⟩ := hcut
   cases kq with
   | zero => exact absurd HA.out (by simp [culletlaw11_GenerAny.j0])
   | succ kj8 =>
    have H := HA.out
    clear HA
    simp only [culletlaw11_GenerAny.j0] at H
    replace H := Option.bind_eq_some_iff.mp H
    obtain ⟨⟨t104, t107⟩, A120, H⟩ := H
    replace H : ((culletlaw11_chosen.f kj8 (wrap64 (t102 + t103)) t103 l2).bind fun t108 => (culletlaw11_GenerAny.l0 kj8 t102 t103 x9_8 t104 t107 t108 ([] : List Int) 0)) = some r := H
    have A12 := Aside0.mk A120
    clear A120
    replace H := Option.bind_eq_some_iff.mp H
    obtain ⟨t108, A130, H⟩ := H
    replace H : (culletlaw11_GenerAny.l0 kj8 t102 t103 x9_8 t104 t107 t108 ([] : List Int) 0) = some r := H
    have A13 := Aside0.mk A130
    clear A130
    have H' := Aside0.mk H
    clear H
    go_wp2_with (first | (go_at_call 20; (with_reducible refine (gener_Generator.calls kj8 x9_8 t102 t103 t104 t107 _ A12.out).mono ?_); rintro e w14 ⟨v105, rfl, ho0, hb⟩; have n0_ := Aside0.mk (Kd.N_lower (Kd.N_mono (ok' := fun k_ => True) ho0 (fun k_ hk_ => trivial)) (below_size (by repeat (first | (with_reducible first | exact HB.out | apply below_alloc | apply pw_below_drewN | apply below_drew1) | exact HB.out)))); have n1_ := Aside0.mk (below_step (by repeat (first | (with_reducible first | exact HB.out | apply below_alloc | apply pw_below_drewN | apply below_drew1) | exact HB.out)) hb); clear HB; have HO106 := n0_; have HB := n1_; clear n0_ n1_; (try clear hb); (try clear hb2); (try clear hk); (try clear hi); (try clear ho0)) | (go_at_call 21; (with_reducible refine (culletlaw11_chosen.calls kj8 (wrap64 (t102 + t103)) t103 _ _ l2 t108 _ ?side1 ?side2 A13.out).mono ?_); (case side1 => repeat (first | exact (Kd.C_below HR2.out HB.out) | (with_reducible refine Kd.C_alloc ?_ _) | (with_reducible refine Kd.C_drewN ?_ _) | (with_reducible refine Kd.C_drew ?_))); (case side2 => exact HC2.out); rintro e w15 ⟨v109, rfl, ho0, hb⟩; have n0_ := Aside0.mk (Kd.N_elder' (by (with_reducible repeat (first | apply Kd.N_alloc | apply Kd.N_drewN | apply Kd.N_drew)); exact HO106.out) (Kd.R_base ho0) hb); have n1_ := Aside0.mk (Kd.R_lower ho0 (below_size (by repeat (first | (with_reducible first | exact HB.out | apply below_alloc | apply pw_below_drewN | apply below_drew1) | exact HB.out)))); have n2_ := Aside0.mk (below_step (by repeat (first | (with_reducible first | exact HB.out | apply below_alloc | apply pw_below_drewN | apply below_drew1) | exact HB.out)) hb); clear HO106; clear HB; have HO106 := n0_; have HO110 := n1_; have HB := n2_; clear n0_ n1_ n2_; (try clear hb); (try clear hb2); (try clear hk); (try clear hi); (try clear ho0)))
    repeat (go_quiet (first | (go_at_call 20; (with_reducible refine (gener_Generator.calls kj8 x9_8 t102 t103 t104 t107 _ A12.out).mono ?_); rintro e w14 ⟨v105, rfl, ho0, hb⟩; have n0_ := Aside0.mk (Kd.N_lower (Kd.N_mono (ok' := fun k_ => True) ho0 (fun k_ hk_ => trivial)) (below_size (by repeat (first | (with_reducible first | exact HB.out | apply below_alloc | apply pw_below_drewN | apply below_drew1) | exact HB.out)))); have n1_ := Aside0.mk (below_step (by repeat (first | (with_reducible first | exact HB.out | apply below_alloc | apply pw_below_drewN | apply below_drew1) | exact HB.out)) hb); clear HB; have HO106 := n0_; have HB := n1_; clear n0_ n1_; (try clear hb); (try clear hb2); (try clear hk); (try clear hi); (try clear ho0)) | (go_at_call 21; (with_reducible refine (culletlaw11_chosen.calls kj8 (wrap64 (t102 + t103)) t103 _ _ l2 t108 _ ?side1 ?side2 A13.out).mono ?_); (case side1 => repeat (first | exact (Kd.C_below HR2.out HB.out) | (with_reducible refine Kd.C_alloc ?_ _) | (with_reducible refine Kd.C_drewN ?_ _) | (with_reducible refine Kd.C_drew ?_))); (case side2 => exact HC2.out); rintro e w15 ⟨v109, rfl, ho0, hb⟩; have n0_ := Aside0.mk (Kd.N_elder' (by (with_reducible repeat (first | apply Kd.N_alloc | apply Kd.N_drewN | apply Kd.N_drew)); exact HO106.out) (Kd.R_base ho0) hb); have n1_ := Aside0.mk (Kd.R_lower ho0 (below_size (by repeat (first | (with_reducible first | exact HB.out | apply below_alloc | apply pw_below_drewN | apply below_drew1) | exact HB.out)))); have n2_ := Aside0.mk (below_step (by repeat (first | (with_reducible first | exact HB.out | apply below_alloc | apply pw_below_drewN | apply below_drew1) | exact HB.out)) hb); clear HO106; clear HB; have HO106 := n0_; have HO110 := n1_; have HB := n2_; clear n0_ n1_ n2_; (try clear hb); (try clear hb2); (try clear hk); (try clear hi); (try clear ho0))); try go_wp2_with (first | (go_at_call 20; (with_reducible refine (gener_Generator.calls kj8 x9_8 t102 t103 t104 t107 _ A12.out).mono ?_); rintro e w14 ⟨v105, rfl, ho0, hb⟩; have n0_ := Aside0.mk (Kd.N_lower (Kd.N_mono (ok' := fun k_ => True) ho0 (fun k_ hk_ => trivial)) (below_size (by repeat (first | (with_reducible first | exact HB.out | apply below_alloc | apply pw_below_drewN | apply below_drew1) | exact HB.out)))); have n1_ := Aside0.mk (below_step (by repeat (first | (with_reducible first | exact HB.out | apply below_alloc | apply pw_below_drewN | apply below_drew1) | exact HB.out)) hb); clear HB; have HO106 := n0_; have HB := n1_; clear n0_ n1_; (try clear hb); (try clear hb2); (try clear hk); (try clear hi); (try clear ho0)) | (go_at_call 21; (with_reducible refine (culletlaw11_chosen.calls kj8 (wrap64 (t102 + t103)) t103 _ _ l2 t108 _ ?side1 ?side2 A13.out).mono ?_); (case side1 => repeat (first | exact (Kd.C_below HR2.out HB.out) | (with_reducible refine Kd.C_alloc ?_ _) | (with_reducible refine Kd.C_drewN ?_ _) | (with_reducible refine Kd.C_drew ?_))); (case side2 => exact HC2.out); rintro e w15 ⟨v109, rfl, ho0, hb⟩; have n0_ := Aside0.mk (Kd.N_elder' (by (with_reducible repeat (first | apply Kd.N_alloc | apply Kd.N_drewN | apply Kd.N_drew)); exact HO106.out) (Kd.R_base ho0) hb); have n1_ := Aside0.mk (Kd.R_lower ho0 (below_size (by repeat (first | (with_reducible first | exact HB.out | apply below_alloc | apply pw_below_drewN | apply below_drew1) | exact HB.out)))); have n2_ := Aside0.mk (below_step (by repeat (first | (with_reducible first | exact HB.out | apply below_alloc | apply pw_below_drewN | apply below_drew1) | exact HB.out)) hb); clear HO106; clear HB; have HO106 := n0_; have HO110 := n1_; have HB := n2_; clear n0_ n1_ n2_; (try clear hb); (try clear hb2); (try clear hk); (try clear hi); (try clear ho0))))
    go_loopg [13, 14] kj8 (fun kq v13 v14 w' => ∃ (x13_2 : List Int) (x14_2 : Int), v14 = .int .i64 x14_2 ∧ Aside0 (culletlaw11_GenerAny.l0 kq t102 t103 x9_8 t104 t107 t108 x13_2 x14_2 = some r) ∧ Aside0 (kq ≤ kj8) ∧ Aside0 (Kd.N (Kd.slice 5 (Kd.int .u8)) 22 w' w.heap.size (fun k_ => some k_ ≠ (v109 : Value).ownBlock ∧ some k_ ≠ (v13 : Value).ownBlock) v105 t104) ∧ Aside0 (Kd.R (Kd.int .i64) 3 w' w.heap.size (fun k_ => some k_ ≠ (v13 : Value).ownBlock) v109 t108) ∧ Aside0 (Kd.R (Kd.int .i64) 3 w' w.heap.size (fun k_ => some k_ ≠ (v109 : Value).ownBlock) v13 x13_2) ∧ Aside0 (Below w.heap.size w w'))
    case atStart => exact ⟨(([] : List Int)), (0), (by first | rfl | (simp; done) | (simp [*]; done)), H', ⟨Nat.le_refl _⟩, ⟨by (with_reducible repeat (first | apply Kd.N_alloc | apply Kd.N_drewN | apply Kd.N_drew)); exact Kd.N_mono HO106.out (fun _ hk => ⟨hk.2, (by simp [Value.ownBlock])⟩)⟩, ⟨by (with_reducible repeat (first | apply Kd.R_alloc | apply Kd.R_drewN | apply Kd.R_drew)); exact Kd.R_mono HO110.out (fun _ hk => (by simp [Value.ownBlock]))⟩, ⟨by first | exact Kd.R_nil _ _ _ _ _ | exact Kd.N_nil _ _ _ _ _ | exact Kd.V_nil _ _ _ _ _ | exact Kd.Q_nil _ _ _ _ _ | exact Kd.S_nil _ _ _ _ _⟩, ⟨by repeat (first | (with_reducible first | exact HB.out | apply below_alloc | apply pw_below_drewN | apply below_drew1) | exact HB.out)⟩⟩
    case round =>
     clear H'
     try clear c1
     try clear c2
     try clear p2
     try clear c5
     try clear c6
     try clear p6
     try clear c11
     try clear p2
     obtain ⟨x13_2, x14_2, rfl, HA, HK2, HO_10, HO_12, HO_13, HB⟩ := hrel
     cases gk with
     | zero => exact absurd HA.out (by simp [culletlaw11_GenerAny.l0])
     | succ k2 =>
      have H := HA.out
      clear HA
      simp only [culletlaw11_GenerAny.l0] at H
      by_cases c16 : x14_2 < (wrap64 (t102 + t103))
      ·rw [if_pos c16] at H
       have c16b0 : decide (x14_2 < (wrap64 (t102 + t103))) = true := decide_eq_true c16
       clear c16
       by_cases c17 : x13_2.length < 17592186044416
       ·rw [if_pos c17] at H
        have LMc17 := Aside0.mk c17
        clear c17
        obtain ⟨y111, hy111⟩ : ∃ y_ : List Int, y_ = (x13_2 ++ [x14_2]) := ⟨_, rfl⟩
        replace H : (culletlaw11_GenerAny.l0 k2 t102 t103 x9_8 t104 t107 t108 y111 (wrap64 (x14_2 + 1))) = some r := by first | (rw [hy111]; with_reducible exact H) | (have H2_ := (Option.bind_some _ _).symm.trans H; rw [hy111]; with_reducible exact H2_) | (have H2_ := (Option.bind_some _ _).symm.trans H; with_reducible exact H2_) | with_reducible exact H | (rw [hy111]; exact H) | exact H
        have Ny111 := Aside0.mk hy111
        clear hy111
        have H' := Aside0.mk H
        clear H
        go_wp2_with (first | ((with_reducible refine gate_builtin (b := .append) (xs := #[.tmp 51, .tmp 53]) rfl ?_); (try (refine gate_guard (by rfl) ?_; dsimp only)); at_builtin; refine Kd.R_append (Kd.int .i64) (w0 := w) w.heap.size rfl (.tmp 51) (.tmp 53) 34 3 (.int .i64 0) 8 rfl Try.underlying34 info3 rfl (by decide) (by omega) u13 x13_2 x14_2 [.int .i64 x14_2] (fun k_ => some k_ ≠ (v109 : Value).ownBlock) (fun _ => False) rfl rfl ?aP (fun _ hk => hk.elim) ?aF ?aO ?aB ?aS ?aL ?_; (case aP => exact rfl); (case aB => exact (by repeat (first | (with_reducible first | exact HB.out | apply below_alloc | apply pw_below_drewN | apply below_drew1) | exact HB.out))); (case aF => exact (fun k_ hk => Kd.fresh' (Kd.R_lt (by (with_reducible repeat (first | apply Kd.R_alloc | apply Kd.R_drewN | apply Kd.R_drew)); exact HO_12.out)) k_ hk)); (case aO => exact (by (with_reducible repeat (first | apply Kd.R_alloc | apply Kd.R_drewN | apply Kd.R_drew)); exact HO_13.out)); (case aS => exact (below_size (by repeat (first | (with_reducible first | exact HB.out | apply below_alloc | apply pw_below_drewN | apply below_drew1) | exact HB.out)))); (case aL => have := LMc17.out; omega); intro v112 w18 ho hb hg hat; rw [← Ny111.out] at ho; have n0_ := Aside0.mk (Kd.N_afterv (ok := (fun k_ => some k_ ≠ (v109 : Value).ownBlock)) (by (with_reducible repeat (first | apply Kd.N_alloc | apply Kd.N_drewN | apply Kd.N_drew)); exact HO_10.out) hg hat); have n1_ := Aside0.mk (Kd.R_after (ok := (fun _ => True)) (by (with_reducible repeat (first | apply Kd.R_alloc | apply Kd.R_drewN | apply Kd.R_drew)); exact Kd.R_mono HO_12.out (fun _ hk => ⟨trivial, hk⟩)) hg hat); have n2_ := Aside0.mk (hb); have n3_ := Aside0.mk (ho); clear HO_10; clear HO_12; clear HB; clear HO_13; have HO_10 := n0_; have HO_12 := n1_; have HB := n2_; have HO113 := n3_; clear n0_ n1_ n2_ n3_; clear ho hb hg hat))
        repeat (go_quiet (first | ((with_reducible refine gate_builtin (b := .append) (xs := #[.tmp 51, .tmp 53]) rfl ?_); (try (refine gate_guard (by rfl) ?_; dsimp only)); at_builtin; refine Kd.R_append (Kd.int .i64) (w0 := w) w.heap.size rfl (.tmp 51) (.tmp 53) 34 3 (.int .i64 0) 8 rfl Try.underlying34 info3 rfl (by decide) (by omega) u13 x13_2 x14_2 [.int .i64 x14_2] (fun k_ => some k_ ≠ (v109 : Value).ownBlock) (fun _ => False) rfl rfl ?aP (fun _ hk => hk.elim) ?aF ?aO ?aB ?aS ?aL ?_; (case aP => exact rfl); (case aB => exact (by repeat (first | (with_reducible first | exact HB.out | apply below_alloc | apply pw_below_drewN | apply below_drew1) | exact HB.out))); (case aF => exact (fun k_ hk => Kd.fresh' (Kd.R_lt (by (with_reducible repeat (first | apply Kd.R_alloc | apply Kd.R_drewN | apply Kd.R_drew)); exact HO_12.out)) k_ hk)); (case aO => exact (by (with_reducible repeat (first | apply Kd.R_alloc | apply Kd.R_drewN | apply Kd.R_drew)); exact HO_13.out)); (case aS => exact (below_size (by repeat (first | (with_reducible first | exact HB.out | apply below_alloc | apply pw_below_drewN | apply below_drew1) | exact HB.out)))); (case aL => have := LMc17.out; omega); intro v112 w18 ho hb hg hat; rw [← Ny111.out] at ho; have n0_ := Aside0.mk (Kd.N_afterv (ok := (fun k_ => some k_ ≠ (v109 : Value).ownBlock)) (by (with_reducible repeat (first | apply Kd.N_alloc | apply Kd.N_drewN | apply Kd.N_drew)); exact HO_10.out) hg hat); have n1_ := Aside0.mk (Kd.R_after (ok := (fun _ => True)) (by (with_reducible repeat (first | apply Kd.R_alloc | apply Kd.R_drewN | apply Kd.R_drew)); exact Kd.R_mono HO_12.out (fun _ hk => ⟨trivial, hk⟩)) hg hat); have n2_ := Aside0.mk (hb); have n3_ := Aside0.mk (ho); clear HO_10; clear HO_12; clear HB; clear HO_13; have HO_10 := n0_; have HO_12 := n1_; have HB := n2_; have HO113 := n3_; clear n0_ n1_ n2_ n3_; clear ho hb hg hat)); try go_wp2_with (first | ((with_reducible refine gate_builtin (b := .append) (xs := #[.tmp 51, .tmp 53]) rfl ?_); (try (refine gate_guard (by rfl) ?_; dsimp only)); at_builtin; refine Kd.R_append (Kd.int .i64) (w0 := w) w.heap.size rfl (.tmp 51) (.tmp 53) 34 3 (.int .i64 0) 8 rfl Try.underlying34 info3 rfl (by decide) (by omega) u13 x13_2 x14_2 [.int .i64 x14_2] (fun k_ => some k_ ≠ (v109 : Value).ownBlock) (fun _ => False) rfl rfl ?aP (fun _ hk => hk.elim) ?aF ?aO ?aB ?aS ?aL ?_; (case aP => exact rfl); (case aB => exact (by repeat (first | (with_reducible first | exact HB.out | apply below_alloc | apply pw_below_drewN | apply below_drew1) | exact HB.out))); (case aF => exact (fun k_ hk => Kd.fresh' (Kd.R_lt (by (with_reducible repeat (first | apply Kd.R_alloc | apply Kd.R_drewN | apply Kd.R_drew)); exact HO_12.out)) k_ hk)); (case aO => exact (by (with_reducible repeat (first | apply Kd.R_alloc | apply Kd.R_drewN | apply Kd.R_drew)); exact HO_13.out)); (case aS => exact (below_size (by repeat (first | (with_reducible first | exact HB.out | apply below_alloc | apply pw_below_drewN | apply below_drew1) | exact HB.out)))); (case aL => have := LMc17.out; omega); intro v112 w18 ho hb hg hat; rw [← Ny111.out] at ho; have n0_ := Aside0.mk (Kd.N_afterv (ok := (fun k_ => some k_ ≠ (v109 : Value).ownBlock)) (by (with_reducible repeat (first | apply Kd.N_alloc | apply Kd.N_drewN | apply Kd.N_drew)); exact HO_10.out) hg hat); have n1_ := Aside0.mk (Kd.R_after (ok := (fun _ => True)) (by (with_reducible repeat (first | apply Kd.R_alloc | apply Kd.R_drewN | apply Kd.R_drew)); exact Kd.R_mono HO_12.out (fun _ hk => ⟨trivial, hk⟩)) hg hat); have n2_ := Aside0.mk (hb); have n3_ := Aside0.mk (ho); clear HO_10; clear HO_12; clear HB; clear HO_13; have HO_10 := n0_; have HO_12 := n1_; have HB := n2_; have HO113 := n3_; clear n0_ n1_ n2_ n3_; clear ho hb hg hat)))
        go_roundg k2
        case measure => have := HJ8.out; have := HK2.out; omega
        case rel => exact ⟨(y111), (wrap64 (x14_2 + 1)), (by first | rfl | (simp; done) | (simp [*]; done)), H', ⟨by have := HJ8.out; have := HK2.out; omega⟩, ⟨by (with_reducible repeat (first | apply Kd.N_alloc | apply Kd.N_drewN | apply Kd.N_drew)); exact HO_10.out⟩, ⟨by (with_reducible repeat (first | apply Kd.R_alloc | apply Kd.R_drewN | apply Kd.R_drew)); exact Kd.R_mono HO_12.out (fun _ hk => hk.2)⟩, ⟨by (with_reducible repeat (first | apply Kd.R_alloc | apply Kd.R_drewN | apply Kd.R_drew)); exact HO113.out⟩, ⟨by repeat (first | (with_reducible first | exact HB.out | apply below_alloc | apply pw_below_drewN | apply below_drew1) | exact HB.out)⟩⟩
       ·rw [if_neg c17] at H
        exact absurd H (by simp)
      ·rw [if_neg c16] at H
       have c16b0 : decide (x14_2 < (wrap64 (t102 + t103))) = false := decide_eq_false c16
       clear c16
       replace H := Option.bind_eq_some_iff.mp H
       obtain ⟨⟨t114, t117⟩, A190, H⟩ := H
       replace H : (if t107 = 0 then (if t117 = 0 then (if (t104.length : Int) = (wrap64 (t102 + t103)) then (culletlaw11_GenerAny.j2 k2 t102 t103 t104 t108 t114 ((t114.length : Int) != (wrap64 (t102 + t103)))) else (culletlaw11_GenerAny.j2 k2 t102 t103 t104 t108 t114 true)) else (culletlaw11_GenerAny.j2 k2 t102 t103 t104 t108 t114 true)) else (culletlaw11_GenerAny.j2 k2 t102 t103 t104 t108 t114 true)) = some r := H
       have A19 := Aside0.mk A190
       clear A190
       have HC20 := Aside0.mk H
       clear H
       obtain ⟨Ao21, co21, eo21⟩ := Kd.R_slice HO_12.out
       subst eo21
       obtain ⟨Ao22, co22, eo22⟩ := Kd.R_slice HO_13.out
       subst eo22
       go_upto_region 16 with (first | (go_at_call 22; (with_reducible refine (gener_Decoder.calls k2 x9_8 t102 t103 _ _ t108 _ _ x13_2 t114 t117 _ ?side1 ?side2 ?side3 ?side4 A19.out).mono ?_); (case side1 => repeat (first | exact (Kd.R_reads' HO_12.out).2.2 | (with_reducible refine Kd.C_alloc ?_ _) | (with_reducible refine Kd.C_drewN ?_ _) | (with_reducible refine Kd.C_drew ?_))); (case side2 => exact (Kd.R_reads' HO_12.out).2.1); (case side3 => repeat (first | exact (Kd.R_reads' HO_13.out).2.2 | (with_reducible refine Kd.C_alloc ?_ _) | (with_reducible refine Kd.C_drewN ?_ _) | (with_reducible refine Kd.C_drew ?_))); (case side4 => exact (Kd.R_reads' HO_13.out).2.1); rintro e w23 ⟨v115, rfl, ho0, hb⟩; have n0_ := Aside0.mk (Kd.N_elder' (by (with_reducible repeat (first | apply Kd.N_alloc | apply Kd.N_drewN | apply Kd.N_drew)); exact HO_10.out) (by first | exact Kd.N_base ho0 | exact Kd.S_base ho0) hb); have n1_ := Aside0.mk (Kd.R_below (by (with_reducible repeat (first | apply Kd.R_alloc | apply Kd.R_drewN | apply Kd.R_drew)); exact HO_12.out) hb); have n2_ := Aside0.mk (Kd.R_below (by (with_reducible repeat (first | apply Kd.R_alloc | apply Kd.R_drewN | apply Kd.R_drew)); exact HO_13.out) hb); have n3_ := Aside0.mk (Kd.N_lower (Kd.N_mono (ok' := fun k_ => some k_ ≠ (v105 : Value).ownBlock ∧ some k_ ≠ (.slice Ao21 t108.length co21 : Value).ownBlock ∧ some k_ ≠ (.slice Ao22 x13_2.length co22 : Value).ownBlock) ho0 (fun k_ hk_ => ⟨(Kd.fresh' (Kd.N_lt (by (with_reducible repeat (first | apply Kd.N_alloc | apply Kd.N_drewN | apply Kd.N_drew)); exact HO_10.out)) k_ hk_), (Kd.fresh' (Kd.R_lt (by (with_reducible repeat (first | apply Kd.R_alloc | apply Kd.R_drewN | apply Kd.R_drew)); exact HO_12.out)) k_ hk_), (Kd.fresh' (Kd.R_lt (by (with_reducible repeat (first | apply Kd.R_alloc | apply Kd.R_drewN | apply Kd.R_drew)); exact HO_13.out)) k_ hk_)⟩)) (below_size (by repeat (first | (with_reducible first | exact HB.out | apply below_alloc | apply pw_below_drewN | apply below_drew1) | exact HB.out)))); have n4_ := Aside0.mk (below_step (by repeat (first | (with_reducible first | exact HB.out | apply below_alloc | apply pw_below_drewN | apply below_drew1) | exact HB.out)) hb); clear HO_10; clear HO_12; clear HO_13; clear HB; have HO_10 := n0_; have HO_12 := n1_; have HO_13 := n2_; have HO116 := n3_; have HB := n4_; clear n0_ n1_ n2_ n3_ n4_; (try clear hb); (try clear hb2); (try clear hk); (try clear hi); (try clear ho0)))
       repeat (go_quiet (first | (go_at_call 22; (with_reducible refine (gener_Decoder.calls k2 x9_8 t102 t103 _ _ t108 _ _ x13_2 t114 t117 _ ?side1 ?side2 ?side3 ?side4 A19.out).mono ?_); (case side1 => repeat (first | exact (Kd.R_reads' HO_12.out).2.2 | (with_reducible refine Kd.C_alloc ?_ _) | (with_reducible refine Kd.C_drewN ?_ _) | (with_reducible refine Kd.C_drew ?_))); (case side2 => exact (Kd.R_reads' HO_12.out).2.1); (case side3 => repeat (first | exact (Kd.R_reads' HO_13.out).2.2 | (with_reducible refine Kd.C_alloc ?_ _) | (with_reducible refine Kd.C_drewN ?_ _) | (with_reducible refine Kd.C_drew ?_))); (case side4 => exact (Kd.R_reads' HO_13.out).2.1); rintro e w23 ⟨v115, rfl, ho0, hb⟩; have n0_ := Aside0.mk (Kd.N_elder' (by (with_reducible repeat (first | apply Kd.N_alloc | apply Kd.N_drewN | apply Kd.N_drew)); exact HO_10.out) (by first | exact Kd.N_base ho0 | exact Kd.S_base ho0) hb); have n1_ := Aside0.mk (Kd.R_below (by (with_reducible repeat (first | apply Kd.R_alloc | apply Kd.R_drewN | apply Kd.R_drew)); exact HO_12.out) hb); have n2_ := Aside0.mk (Kd.R_below (by (with_reducible repeat (first | apply Kd.R_alloc | apply Kd.R_drewN | apply Kd.R_drew)); exact HO_13.out) hb); have n3_ := Aside0.mk (Kd.N_lower (Kd.N_mono (ok' := fun k_ => some k_ ≠ (v105 : Value).ownBlock ∧ some k_ ≠ (.slice Ao21 t108.length co21 : Value).ownBlock ∧ some k_ ≠ (.slice Ao22 x13_2.length co22 : Value).ownBlock) ho0 (fun k_ hk_ => ⟨(Kd.fresh' (Kd.N_lt (by (with_reducible repeat (first | apply Kd.N_alloc | apply Kd.N_drewN | apply Kd.N_drew)); exact HO_10.out)) k_ hk_), (Kd.fresh' (Kd.R_lt (by (with_reducible repeat (first | apply Kd.R_alloc | apply Kd.R_drewN | apply Kd.R_drew)); exact HO_12.out)) k_ hk_), (Kd.fresh' (Kd.R_lt (by (with_reducible repeat (first | apply Kd.R_alloc | apply Kd.R_drewN | apply Kd.R_drew)); exact HO_13.out)) k_ hk_)⟩)) (below_size (by repeat (first | (with_reducible first | exact HB.out | apply below_alloc | apply pw_below_drewN | apply below_drew1) | exact HB.out)))); have n4_ := Aside0.mk (below_step (by repeat (first | (with_reducible first | exact HB.out | apply below_alloc | apply pw_below_drewN | apply below_drew1) | exact HB.out)) hb); clear HO_10; clear HO_12; clear HO_13; clear HB; have HO_10 := n0_; have HO_12 := n1_; have HO_13 := n2_; have HO116 := n3_; have HB := n4_; clear n0_ n1_ n2_ n3_ n4_; (try clear hb); (try clear hb2); (try clear hk); (try clear hi); (try clear ho0))); go_upto_region 16 with (first | (go_at_call 22; (with_reducible refine (gener_Decoder.calls k2 x9_8 t102 t103 _ _ t108 _ _ x13_2 t114 t117 _ ?side1 ?side2 ?side3 ?side4 A19.out).mono ?_); (case side1 => repeat (first | exact (Kd.R_reads' HO_12.out).2.2 | (with_reducible refine Kd.C_alloc ?_ _) | (with_reducible refine Kd.C_drewN ?_ _) | (with_reducible refine Kd.C_drew ?_))); (case side2 => exact (Kd.R_reads' HO_12.out).2.1); (case side3 => repeat (first | exact (Kd.R_reads' HO_13.out).2.2 | (with_reducible refine Kd.C_alloc ?_ _) | (with_reducible refine Kd.C_drewN ?_ _) | (with_reducible refine Kd.C_drew ?_))); (case side4 => exact (Kd.R_reads' HO_13.out).2.1); rintro e w23 ⟨v115, rfl, ho0, hb⟩; have n0_ := Aside0.mk (Kd.N_elder' (by (with_reducible repeat (first | apply Kd.N_alloc | apply Kd.N_drewN | apply Kd.N_drew)); exact HO_10.out) (by first | exact Kd.N_base ho0 | exact Kd.S_base ho0) hb); have n1_ := Aside0.mk (Kd.R_below (by (with_reducible repeat (first | apply Kd.R_alloc | apply Kd.R_drewN | apply Kd.R_drew)); exact HO_12.out) hb); have n2_ := Aside0.mk (Kd.R_below (by (with_reducible repeat (first | apply Kd.R_alloc | apply Kd.R_drewN | apply Kd.R_drew)); exact HO_13.out) hb); have n3_ := Aside0.mk (Kd.N_lower (Kd.N_mono (ok' := fun k_ => some k_ ≠ (v105 : Value).ownBlock ∧ some k_ ≠ (.slice Ao21 t108.length co21 : Value).ownBlock ∧ some k_ ≠ (.slice Ao22 x13_2.length co22 : Value).ownBlock) ho0 (fun k_ hk_ => ⟨(Kd.fresh' (Kd.N_lt (by (with_reducible repeat (first | apply Kd.N_alloc | apply Kd.N_drewN | apply Kd.N_drew)); exact HO_10.out)) k_ hk_), (Kd.fresh' (Kd.R_lt (by (with_reducible repeat (first | apply Kd.R_alloc | apply Kd.R_drewN | apply Kd.R_drew)); exact HO_12.out)) k_ hk_), (Kd.fresh' (Kd.R_lt (by (with_reducible repeat (first | apply Kd.R_alloc | apply Kd.R_drewN | apply Kd.R_drew)); exact HO_13.out)) k_ hk_)⟩)) (below_size (by repeat (first | (with_reducible first | exact HB.out | apply below_alloc | apply pw_below_drewN | apply below_drew1) | exact HB.out)))); have n4_ := Aside0.mk (below_step (by repeat (first | (with_reducible first | exact HB.out | apply below_alloc | apply pw_below_drewN | apply below_drew1) | exact HB.out)) hb); clear HO_10; clear HO_12; clear HO_13; clear HB; have HO_10 := n0_; have HO_12 := n1_; have HO_13 := n2_; have HO116 := n3_; have HB := n4_; clear n0_ n1_ n2_ n3_ n4_; (try clear hb); (try clear hb2); (try clear hk); (try clear hi); (try clear ho0))))
       (try simp only [Act.put, List.setIfInBounds_toArray, List.set_cons_zero, List.set_cons_succ])
       go_cut [85] (fun v85 wc => ∃ (kq : Nat) (x85_19 : Bool), v85 = .bool x85_19 ∧ Aside0 (culletlaw11_GenerAny.j2 kq t102 t103 t104 t108 t114 x85_19 = some r) ∧ Aside0 (kq ≤ k2) ∧ Aside0 (Kd.N (Kd.slice 5 (Kd.int .u8)) 22 wc w.heap.size (fun k_ => some k_ ≠ ((.slice Ao21 t108.length co21) : Value).ownBlock ∧ some k_ ≠ (v115 : Value).ownBlock) v105 t104) ∧ Aside0 (Kd.R (Kd.int .i64) 3 wc w.heap.size (fun _ => True) (.slice Ao21 t108.length co21) t108) ∧ Aside0 (Kd.N (Kd.slice 5 (Kd.int .u8)) 22 wc w.heap.size (fun k_ => some k_ ≠ (v105 : Value).ownBlock ∧ some k_ ≠ ((.slice Ao21 t108.length co21) : Value).ownBlock) v115 t114) ∧ Aside0 (Below w.heap.size w wc))
       case first => as_aux_lemma =>
        have H := HC20.out
        clear HC20
        by_cases c24 : t107 = 0
        ·rw [if_pos c24] at H
         have c24b0 : (t107 == 0) = true := beq_iff_eq.mpr c24
         have c24b1 : (t107 != 0) = false := bne_eq_false_iff_eq.mpr c24
         clear c24
         (first | rw [c24b0] | (simp only [i64_w, i32_w]; rw [c24b0]) | skip)
         by_cases c25 : t117 = 0
         ·rw [if_pos c25] at H
          have c25b0 : (t117 == 0) = true := beq_iff_eq.mpr c25
          have c25b1 : (t117 != 0) = false := bne_eq_false_iff_eq.mpr c25
          clear c25
          by_cases c26 : (t104.length : Int) = (wrap64 (t102 + t103))
          ·rw [if_pos c26] at H
           have c26b0 : ((t104.length : Int) == (wrap64 (t102 + t103))) = true := beq_iff_eq.mpr c26
           have c26b1 : ((t104.length : Int) != (wrap64 (t102 + t103))) = false := bne_eq_false_iff_eq.mpr c26
           clear c26
           have H' := Aside0.mk H
           clear H
           obtain ⟨Ao27, co27, eo27⟩ := Kd.N_slice HO_10.out
           subst eo27
           obtain ⟨Ao28, co28, eo28⟩ := Kd.N_slice HO116.out
           subst eo28
           go_wp2
           repeat (go_quiet (fail); try go_wp2)
           go_meet
           case rel => exact ⟨_, (((t114.length : Int) != (wrap64 (t102 + t103)))), (by first | rfl | (simp; done) | (simp [*]; done)), H', ⟨by have := HJ8.out; have := HK2.out; first | omega | exact Nat.le_refl _⟩, ⟨by (with_reducible repeat (first | apply Kd.N_alloc | apply Kd.N_drewN | apply Kd.N_drew)); exact Kd.N_mono HO_10.out (fun _ hk => ⟨hk.1.1, hk.2⟩)⟩, ⟨by (with_reducible repeat (first | apply Kd.R_alloc | apply Kd.R_drewN | apply Kd.R_drew)); exact Kd.R_mono HO_12.out (fun _ hk => trivial)⟩, ⟨by (with_reducible repeat (first | apply Kd.N_alloc | apply Kd.N_drewN | apply Kd.N_drew)); exact Kd.N_mono HO116.out (fun _ hk => ⟨hk.1, hk.2.1⟩)⟩, ⟨by repeat (first | (with_reducible first | exact HB.out | apply below_alloc | apply pw_below_drewN | apply below_drew1) | exact HB.out)⟩⟩
          ·rw [if_neg c26] at H
           have c26b0 : ((t104.length : Int) == (wrap64 (t102 + t103))) = false := beq_eq_false_iff_ne.mpr c26
           have c26b1 : ((t104.length : Int) != (wrap64 (t102 + t103))) = true := bne_iff_ne.mpr c26
           have H' := Aside0.mk H
           clear H
           obtain ⟨Ao29, co29, eo29⟩ := Kd.N_slice HO_10.out
           subst eo29
           go_wp2
           repeat (go_quiet (fail); try go_wp2)
           go_meet
           case rel => exact ⟨_, (true), (by first | rfl | (simp; done) | (simp [*]; done)), H', ⟨by have := HJ8.out; have := HK2.out; first | omega | exact Nat.le_refl _⟩, ⟨by (with_reducible repeat (first | apply Kd.N_alloc | apply Kd.N_drewN | apply Kd.N_drew)); exact Kd.N_mono HO_10.out (fun _ hk => ⟨hk.1.1, hk.2⟩)⟩, ⟨by (with_reducible repeat (first | apply Kd.R_alloc | apply Kd.R_drewN | apply Kd.R_drew)); exact Kd.R_mono HO_12.out (fun _ hk => trivial)⟩, ⟨by (with_reducible repeat (first | apply Kd.N_alloc | apply Kd.N_drewN | apply Kd.N_drew)); exact Kd.N_mono HO116.out (fun _ hk => ⟨hk.1, hk.2.1⟩)⟩, ⟨by repeat (first | (with_reducible first | exact HB.out | apply below_alloc | apply pw_below_drewN | apply below_drew1) | exact HB.out)⟩⟩
         ·rw [if_neg c25] at H
          have c25b0 : (t117 == 0) = false := beq_eq_false_iff_ne.mpr c25
          have c25b1 : (t117 != 0) = true := bne_iff_ne.mpr c25
          have H' := Aside0.mk H
          clear H
          go_wp2
          repeat (go_quiet (fail); try go_wp2)
          go_meet
          case rel => exact ⟨_, (true), (by first | rfl | (simp; done) | (simp [*]; done)), H', ⟨by have := HJ8.out; have := HK2.out; first | omega | exact Nat.le_refl _⟩, ⟨by (with_reducible repeat (first | apply Kd.N_alloc | apply Kd.N_drewN | apply Kd.N_drew)); exact Kd.N_mono HO_10.out (fun _ hk => ⟨hk.1.1, hk.2⟩)⟩, ⟨by (with_reducible repeat (first | apply Kd.R_alloc | apply Kd.R_drewN | apply Kd.R_drew)); exact Kd.R_mono HO_12.out (fun _ hk => trivial)⟩, ⟨by (with_reducible repeat (first | apply Kd.N_alloc | apply Kd.N_drewN | apply Kd.N_drew)); exact Kd.N_mono HO116.out (fun _ hk => ⟨hk.1, hk.2.1⟩)⟩, ⟨by repeat (first | (with_reducible first | exact HB.out | apply below_alloc | apply pw_below_drewN | apply below_drew1) | exact HB.out)⟩⟩
        ·rw [if_neg c24] at H
         have c24b0 : (t107 == 0) = false := beq_eq_false_iff_ne.mpr c24
         have c24b1 : (t107 != 0) = true := bne_iff_ne.mpr c24
         (first | rw [c24b0] | (simp only [i64_w, i32_w]; rw [c24b0]) | skip)
         have H' := Aside0.mk H
         clear H
         go_wp2
         repeat (go_quiet (fail); try go_wp2)
         go_meet
         case rel => exact ⟨_, (true), (by first | rfl | (simp; done) | (simp [*]; done)), H', ⟨by have := HJ8.out; have := HK2.out; first | omega | exact Nat.le_refl _⟩, ⟨by (with_reducible repeat (first | apply Kd.N_alloc | apply Kd.N_drewN | apply Kd.N_drew)); exact Kd.N_mono HO_10.out (fun _ hk => ⟨hk.1.1, hk.2⟩)⟩, ⟨by (with_reducible repeat (first | apply Kd.R_alloc | apply Kd.R_drewN | apply Kd.R_drew)); exact Kd.R_mono HO_12.out (fun _ hk => trivial)⟩, ⟨by (with_reducible repeat (first | apply Kd.N_alloc | apply Kd.N_drewN | apply Kd.N_drew)); exact Kd.N_mono HO116.out (fun _ hk => ⟨hk.1, hk.2.1⟩)⟩, ⟨by repeat (first | (with_reducible first | exact HB.out | apply below_alloc | apply pw_below_drewN | apply below_drew1) | exact HB.out)⟩⟩
       case rest => as_aux_lemma =>
        clear HC20
        try clear c1
        try clear c2
        try clear p2
        try clear c5
        try clear c6
        try clear p6
        try clear c11
        try clear c16
        try clear c16b0
        try clear c17
        try clear c24
        try clear c24b0
        try clear c24b1
        try clear c25
        try clear c25b0
        try clear c25b1
        try clear c26
        try clear c26b0
        try clear c26b1
        try clear p2
        try clear p6
        obtain ⟨kq, x85_19, rfl, HA, HJ19, HO_10, HO_12, HO_15, HB⟩ := hcut
        cases kq with
        | zero => exact absurd HA.out (by simp [culletlaw11_GenerAny.j2])
        | succ kj19 =>
         have H := HA.out
         clear HA
         simp only [culletlaw11_GenerAny.j2] at H
         by_cases c30 : x85_19 = true
         ·subst c30
          have H1 : (some false) = some r := by rw [if_pos rfl] at H; exact H
          clear H
          have H := H1
          clear H1
          obtain rfl := Option.some.inj H
          go_wp2
          repeat (go_quiet (fail); try go_wp2)
          go_ret
          exact ⟨by first | rfl | (simp [errW_none, errW_some] <;> rfl) | (simp [*, errW_none, errW_some] <;> rfl), by repeat (first | (with_reducible first | exact HB.out | apply below_alloc | apply pw_below_drewN | apply below_drew1) | exact HB.out)⟩
         ·replace c30 := Bool.eq_false_iff.mpr c30
          subst c30
          have H1 : (culletlaw11_GenerAny.l1 kj19 t102 t103 t104 t108 t114 0) = some r := by rw [if_neg (show ¬ (false = true) by decide)] at H; exact H
          clear H
          have H := H1
          clear H1
          have H' := Aside0.mk H
          clear H
          go_wp2
          repeat (go_quiet (fail); try go_wp2)
          go_loopg [17] kj19 (fun kq v17 w' => ∃ (x17_4 : Int), v17 = .int .i64 x17_4 ∧ Aside0 (culletlaw11_GenerAny.l1 kq t102 t103 t104 t108 t114 x17_4 = some r) ∧ Aside0 (kq ≤ kj19) ∧ Aside0 (Kd.N (Kd.slice 5 (Kd.int .u8)) 22 w' w.heap.size (fun k_ => some k_ ≠ ((.slice Ao21 t108.length co21) : Value).ownBlock ∧ some k_ ≠ (v115 : Value).ownBlock) v105 t104) ∧ Aside0 (Kd.R (Kd.int .i64) 3 w' w.heap.size (fun _ => True) (.slice Ao21 t108.length co21) t108) ∧ Aside0 (Kd.N (Kd.slice 5 (Kd.int .u8)) 22 w' w.heap.size (fun k_ => some k_ ≠ (v105 : Value).ownBlock ∧ some k_ ≠ ((.slice Ao21 t108.length co21) : Value).ownBlock) v115 t114) ∧ Aside0 (Below w.heap.size w w'))
          case atStart => exact ⟨(0), (by first | rfl | (simp; done) | (simp [*]; done)), H', ⟨Nat.le_refl _⟩, ⟨by (with_reducible repeat (first | apply Kd.N_alloc | apply Kd.N_drewN | apply Kd.N_drew)); exact HO_10.out⟩, ⟨by (with_reducible repeat (first | apply Kd.R_alloc | apply Kd.R_drewN | apply Kd.R_drew)); exact HO_12.out⟩, ⟨by (with_reducible repeat (first | apply Kd.N_alloc | apply Kd.N_drewN | apply Kd.N_drew)); exact HO_15.out⟩, ⟨by repeat (first | (with_reducible first | exact HB.out | apply below_alloc | apply pw_below_drewN | apply below_drew1) | exact HB.out)⟩⟩
          case round =>
           clear H'
           try clear c1
           try clear c2
           try clear p2
           try clear c3
           try clear c5
           try clear c6
           try clear p6
           try clear c11
           try clear c16
           try clear c16b0
           try clear c17
           try clear c24
           try clear c24b0
           try clear c24b1
           try clear c25
           try clear c25b0
           try clear c25b1
           try clear c26
           try clear c26b0
           try clear c26b1
           try clear c30
           try clear p2
           try clear p6
           obtain ⟨x17_4, rfl, HA, HK4, HO_10, HO_12, HO_15, HB⟩ := hrel
           cases gk with
           | zero => exact absurd HA.out (by simp [culletlaw11_GenerAny.l1])
           | succ k4 =>
            have H := HA.out
            clear HA
            simp only [culletlaw11_GenerAny.l1] at H
            by_cases c31 : x17_4 < (wrap64 (t102 + t103))
            ·rw [if_pos c31] at H
             have c31b0 : decide (x17_4 < (wrap64 (t102 + t103))) = true := decide_eq_true c31
             clear c31
             by_cases c32 : 0 ≤ x17_4
             ·rw [if_pos c32] at H
              have c32b0 : decide (0 ≤ x17_4) = true := decide_eq_true c32
              clear c32
              by_cases c33 : x17_4 < (t104.length : Int)
              ·rw [if_pos c33] at H
               have c33b0 : decide (x17_4 < (t104.length : Int)) = true := decide_eq_true c33
               clear c33
               by_cases c34 : ((rd_L1 t104 x17_4).length : Int) = t102
               ·rw [if_pos c34] at H
                have c34b0 : (((rd_L1 t104 x17_4).length : Int) == t102) = true := beq_iff_eq.mpr c34
                have c34b1 : (((rd_L1 t104 x17_4).length : Int) != t102) = false := bne_eq_false_iff_eq.mpr c34
                clear c34
                by_cases c35 : x17_4 < (t114.length : Int)
                ·rw [if_pos c35] at H
                 have c35b0 : decide (x17_4 < (t114.length : Int)) = true := decide_eq_true c35
                 clear c35
                 by_cases c36 : ((rd_L1 t114 x17_4).length : Int) = t102
                 ·rw [if_pos c36] at H
                  have c36b0 : (((rd_L1 t114 x17_4).length : Int) == t102) = true := beq_iff_eq.mpr c36
                  have c36b1 : (((rd_L1 t114 x17_4).length : Int) != t102) = false := bne_eq_false_iff_eq.mpr c36
                  clear c36
                  have H' := Aside0.mk H
                  clear H
                  obtain ⟨Ao37, co37, eo37⟩ := Kd.N_slice HO_10.out
                  subst eo37
                  have p118 : 0 ≤ (x17_4 : Int) := of_decide_eq_true (by first | (with_reducible assumption) | assumption)
                  have q118 : x17_4 < (t104.length : Int) := of_decide_eq_true (by first | (with_reducible assumption) | assumption)
                  obtain ⟨ad118, A118_0, c118_0, e118, hx118_0, hl118_0, hi118_0⟩ := at_L1 (Kd.N_reads' HO_10.out).2.2 x17_4 p118 q118
                  cases e118
                  obtain ⟨ce118, hce118, hMe118, hcc118⟩ := Kd.N_get HO_10.out [] x17_4 p118 (by first | exact q118 | exact of_decide_eq_true (by first | (with_reducible assumption) | assumption) | (have e_ := (Kd.N_reads' HO_10.out).1; omega))
                  obtain ⟨ua118_0, uc118_0, rfl, ul118_0, ge118_0⟩ := Kd.FK_slice_open hMe118
                  have hv118_0 := hcc118 0 _ rfl
                  rw [Nat.add_zero, show ((Kd.slice 5 (Kd.int .u8))).sz = 1 from rfl, Nat.mul_one] at hv118_0
                  replace hv118_0 := Option.some.inj (hv118_0.symm.trans hx118_0)
                  injection hv118_0 with hva_ hvn_ hvc_
                  rw [hva_] at ge118_0
                  rw [hvc_] at ul118_0
                  have HL118_0 := Aside0.mk (show Kd.V (Kd.int .u8) 5 _ w.heap.size _ _ (rd_L1 t104 x17_4) from Kd.V_mk ul118_0 ge118_0)
                  clear hva_ hvn_ hvc_ ge118_0 ul118_0
                  clear hcc118 hce118
                  have HR118_0 := Aside0.mk hi118_0
                  have HC118_0 := Aside0.mk hl118_0
                  clear hi118_0 hl118_0
                  replace p118 := eq_true p118
                  replace q118 := eq_true q118
                  obtain ⟨Ao38, co38, eo38⟩ := Kd.N_slice HO_15.out
                  subst eo38
                  have p119 : 0 ≤ (x17_4 : Int) := of_decide_eq_true (by first | (with_reducible assumption) | assumption)
                  have q119 : x17_4 < (t114.length : Int) := of_decide_eq_true (by first | (with_reducible assumption) | assumption)
                  obtain ⟨ad119, A119_0, c119_0, e119, hx119_0, hl119_0, hi119_0⟩ := at_L1 (Kd.N_reads' HO_15.out).2.2 x17_4 p119 q119
                  cases e119
                  obtain ⟨ce119, hce119, hMe119, hcc119⟩ := Kd.N_get HO_15.out [] x17_4 p119 (by first | exact q119 | exact of_decide_eq_true (by first | (with_reducible assumption) | assumption) | (have e_ := (Kd.N_reads' HO_15.out).1; omega))
                  obtain ⟨ua119_0, uc119_0, rfl, ul119_0, ge119_0⟩ := Kd.FK_slice_open hMe119
                  have hv119_0 := hcc119 0 _ rfl
                  rw [Nat.add_zero, show ((Kd.slice 5 (Kd.int .u8))).sz = 1 from rfl, Nat.mul_one] at hv119_0
                  replace hv119_0 := Option.some.inj (hv119_0.symm.trans hx119_0)
                  injection hv119_0 with hva_ hvn_ hvc_
                  rw [hva_] at ge119_0
                  rw [hvc_] at ul119_0
                  have HL119_0 := Aside0.mk (show Kd.V (Kd.int .u8) 5 _ w.heap.size _ _ (rd_L1 t114 x17_4) from Kd.V_mk ul119_0 ge119_0)
                  clear hva_ hvn_ hvc_ ge119_0 ul119_0
                  clear hcc119 hce119
                  have HR119_0 := Aside0.mk hi119_0
                  have HC119_0 := Aside0.mk hl119_0
                  clear hi119_0 hl119_0
                  replace p119 := eq_true p119
                  replace q119 := eq_true q119
                  go_wp2
                  repeat (go_quiet (fail); try go_wp2)
                  go_roundg k4
                  case measure => have := HJ8.out; have := HK2.out; have := HJ19.out; have := HK4.out; omega
                  case rel => exact ⟨(wrap64 (x17_4 + 1)), (by first | rfl | (simp; done) | (simp [*]; done)), H', ⟨by have := HJ8.out; have := HK2.out; have := HJ19.out; have := HK4.out; omega⟩, ⟨by (with_reducible repeat (first | apply Kd.N_alloc | apply Kd.N_drewN | apply Kd.N_drew)); exact HO_10.out⟩, ⟨by (with_reducible repeat (first | apply Kd.R_alloc | apply Kd.R_drewN | apply Kd.R_drew)); exact HO_12.out⟩, ⟨by (with_reducible repeat (first | apply Kd.N_alloc | apply Kd.N_drewN | apply Kd.N_drew)); exact HO_15.out⟩, ⟨by repeat (first | (with_reducible first | exact HB.out | apply below_alloc | apply pw_below_drewN | apply below_drew1) | exact HB.out)⟩⟩
                 ·rw [if_neg c36] at H
                  have c36b0 : (((rd_L1 t114 x17_4).length : Int) == t102) = false := beq_eq_false_iff_ne.mpr c36
                  have c36b1 : (((rd_L1 t114 x17_4).length : Int) != t102) = true := bne_iff_ne.mpr c36
                  obtain rfl := Option.some.inj H
                  obtain ⟨Ao39, co39, eo39⟩ := Kd.N_slice HO_10.out
                  subst eo39
                  have p118 : 0 ≤ (x17_4 : Int) := of_decide_eq_true (by first | (with_reducible assumption) | assumption)
                  have q118 : x17_4 < (t104.length : Int) := of_decide_eq_true (by first | (with_reducible assumption) | assumption)
                  obtain ⟨ad118, A118_0, c118_0, e118, hx118_0, hl118_0, hi118_0⟩ := at_L1 (Kd.N_reads' HO_10.out).2.2 x17_4 p118 q118
                  cases e118
                  obtain ⟨ce118, hce118, hMe118, hcc118⟩ := Kd.N_get HO_10.out [] x17_4 p118 (by first | exact q118 | exact of_decide_eq_true (by first | (with_reducible assumption) | assumption) | (have e_ := (Kd.N_reads' HO_10.out).1; omega))
                  obtain ⟨ua118_0, uc118_0, rfl, ul118_0, ge118_0⟩ := Kd.FK_slice_open hMe118
                  have hv118_0 := hcc118 0 _ rfl
                  rw [Nat.add_zero, show ((Kd.slice 5 (Kd.int .u8))).sz = 1 from rfl, Nat.mul_one] at hv118_0
                  replace hv118_0 := Option.some.inj (hv118_0.symm.trans hx118_0)
                  injection hv118_0 with hva_ hvn_ hvc_
                  rw [hva_] at ge118_0
                  rw [hvc_] at ul118_0
                  have HL118_0 := Aside0.mk (show Kd.V (Kd.int .u8) 5 _ w.heap.size _ _ (rd_L1 t104 x17_4) from Kd.V_mk ul118_0 ge118_0)
                  clear hva_ hvn_ hvc_ ge118_0 ul118_0
                  clear hcc118 hce118
                  have HR118_0 := Aside0.mk hi118_0
                  have HC118_0 := Aside0.mk hl118_0
                  clear hi118_0 hl118_0
                  replace p118 := eq_true p118
                  replace q118 := eq_true q118
                  obtain ⟨Ao40, co40, eo40⟩ := Kd.N_slice HO_15.out
                  subst eo40
                  have p119 : 0 ≤ (x17_4 : Int) := of_decide_eq_true (by first | (with_reducible assumption) | assumption)
                  have q119 : x17_4 < (t114.length : Int) := of_decide_eq_true (by first | (with_reducible assumption) | assumption)
                  obtain ⟨ad119, A119_0, c119_0, e119, hx119_0, hl119_0, hi119_0⟩ := at_L1 (Kd.N_reads' HO_15.out).2.2 x17_4 p119 q119
                  cases e119
                  obtain ⟨ce119, hce119, hMe119, hcc119⟩ := Kd.N_get HO_15.out [] x17_4 p119 (by first | exact q119 | exact of_decide_eq_true (by first | (with_reducible assumption) | assumption) | (have e_ := (Kd.N_reads' HO_15.out).1; omega))
                  obtain ⟨ua119_0, uc119_0, rfl, ul119_0, ge119_0⟩ := Kd.FK_slice_open hMe119
                  have hv119_0 := hcc119 0 _ rfl
                  rw [Nat.add_zero, show ((Kd.slice 5 (Kd.int .u8))).sz = 1 from rfl, Nat.mul_one] at hv119_0
                  replace hv119_0 := Option.some.inj (hv119_0.symm.trans hx119_0)
                  injection hv119_0 with hva_ hvn_ hvc_
                  rw [hva_] at ge119_0
                  rw [hvc_] at ul119_0
                  have HL119_0 := Aside0.mk (show Kd.V (Kd.int .u8) 5 _ w.heap.size _ _ (rd_L1 t114 x17_4) from Kd.V_mk ul119_0 ge119_0)
                  clear hva_ hvn_ hvc_ ge119_0 ul119_0
                  clear hcc119 hce119
                  have HR119_0 := Aside0.mk hi119_0
                  have HC119_0 := Aside0.mk hl119_0
                  clear hi119_0 hl119_0
                  replace p119 := eq_true p119
                  replace q119 := eq_true q119
                  go_wp2
                  repeat (go_quiet (fail); try go_wp2)
                  go_ret
                  exact ⟨by first | rfl | (simp [errW_none, errW_some] <;> rfl) | (simp [*, errW_none, errW_some] <;> rfl), by repeat (first | (with_reducible first | exact HB.out | apply below_alloc | apply pw_below_drewN | apply below_drew1) | exact HB.out)⟩
                ·rw [if_neg c35] at H
                 exact absurd H (by simp)
               ·rw [if_neg c34] at H
                have c34b0 : (((rd_L1 t104 x17_4).length : Int) == t102) = false := beq_eq_false_iff_ne.mpr c34
                have c34b1 : (((rd_L1 t104 x17_4).length : Int) != t102) = true := bne_iff_ne.mpr c34
                obtain rfl := Option.some.inj H
                obtain ⟨Ao41, co41, eo41⟩ := Kd.N_slice HO_10.out
                subst eo41
                have p118 : 0 ≤ (x17_4 : Int) := of_decide_eq_true (by first | (with_reducible assumption) | assumption)
                have q118 : x17_4 < (t104.length : Int) := of_decide_eq_true (by first | (with_reducible assumption) | assumption)
                obtain ⟨ad118, A118_0, c118_0, e118, hx118_0, hl118_0, hi118_0⟩ := at_L1 (Kd.N_reads' HO_10.out).2.2 x17_4 p118 q118
                cases e118
                obtain ⟨ce118, hce118, hMe118, hcc118⟩ := Kd.N_get HO_10.out [] x17_4 p118 (by first | exact q118 | exact of_decide_eq_true (by first | (with_reducible assumption) | assumption) | (have e_ := (Kd.N_reads' HO_10.out).1; omega))
                obtain ⟨ua118_0, uc118_0, rfl, ul118_0, ge118_0⟩ := Kd.FK_slice_open hMe118
                have hv118_0 := hcc118 0 _ rfl
                rw [Nat.add_zero, show ((Kd.slice 5 (Kd.int .u8))).sz = 1 from rfl, Nat.mul_one] at hv118_0
                replace hv118_0 := Option.some.inj (hv118_0.symm.trans hx118_0)
                injection hv118_0 with hva_ hvn_ hvc_
                rw [hva_] at ge118_0
                rw [hvc_] at ul118_0
                have HL118_0 := Aside0.mk (show Kd.V (Kd.int .u8) 5 _ w.heap.size _ _ (rd_L1 t104 x17_4) from Kd.V_mk ul118_0 ge118_0)
                clear hva_ hvn_ hvc_ ge118_0 ul118_0
                clear hcc118 hce118
                have HR118_0 := Aside0.mk hi118_0
                have HC118_0 := Aside0.mk hl118_0
                clear hi118_0 hl118_0
                replace p118 := eq_true p118
                replace q118 := eq_true q118
                go_wp2
                repeat (go_quiet (fail); try go_wp2)
                go_ret
                exact ⟨by first | rfl | (simp [errW_none, errW_some] <;> rfl) | (simp [*, errW_none, errW_some] <;> rfl), by repeat (first | (with_reducible first | exact HB.out | apply below_alloc | apply pw_below_drewN | apply below_drew1) | exact HB.out)⟩
              ·rw [if_neg c33] at H
               exact absurd H (by simp)
             ·rw [if_neg c32] at H
              exact absurd H (by simp)
            ·rw [if_neg c31] at H
             have c31b0 : decide (x17_4 < (wrap64 (t102 + t103))) = false := decide_eq_false c31
             clear c31
             have H' := Aside0.mk H
             clear H
             go_wp2
             repeat (go_quiet (fail); try go_wp2)
             go_loopg [18] k4 (fun kq v18 w' => ∃ (x18_5 : Int), v18 = .int .i64 x18_5 ∧ Aside0 (culletlaw11_GenerAny.l2 kq t102 t103 t104 t108 t114 x18_5 = some r) ∧ Aside0 (kq ≤ k4) ∧ Aside0 (Kd.N (Kd.slice 5 (Kd.int .u8)) 22 w' w.heap.size (fun k_ => some k_ ≠ ((.slice Ao21 t108.length co21) : Value).ownBlock ∧ some k_ ≠ (v115 : Value).ownBlock) v105 t104) ∧ Aside0 (Kd.R (Kd.int .i64) 3 w' w.heap.size (fun _ => True) (.slice Ao21 t108.length co21) t108) ∧ Aside0 (Kd.N (Kd.slice 5 (Kd.int .u8)) 22 w' w.heap.size (fun k_ => some k_ ≠ (v105 : Value).ownBlock ∧ some k_ ≠ ((.slice Ao21 t108.length co21) : Value).ownBlock) v115 t114) ∧ Aside0 (Below w.heap.size w w'))
             case atStart => exact ⟨(0), (by first | rfl | (simp; done) | (simp [*]; done)), H', ⟨Nat.le_refl _⟩, ⟨by (with_reducible repeat (first | apply Kd.N_alloc | apply Kd.N_drewN | apply Kd.N_drew)); exact HO_10.out⟩, ⟨by (with_reducible repeat (first | apply Kd.R_alloc | apply Kd.R_drewN | apply Kd.R_drew)); exact HO_12.out⟩, ⟨by (with_reducible repeat (first | apply Kd.N_alloc | apply Kd.N_drewN | apply Kd.N_drew)); exact HO_15.out⟩, ⟨by repeat (first | (with_reducible first | exact HB.out | apply below_alloc | apply pw_below_drewN | apply below_drew1) | exact HB.out)⟩⟩
             case round =>
              clear H'
              try clear c1
              try clear p1
              try clear q1
              try clear hx1
              try clear c2
              try clear p2
              try clear c3
              try clear c5
              try clear c6
              try clear p6
              try clear c11
              try clear p11
              try clear q11
              try clear hx11
              try clear c16
              try clear c16b0
              try clear c17
              try clear c24
              try clear c24b0
              try clear c24b1
              try clear c25
              try clear c25b0
              try clear c25b1
              try clear c26
              try clear c26b0
              try clear c26b1
              try clear c30
              try clear c31
              try clear c31b0
              try clear c32
              try clear c32b0
              try clear c33
              try clear c33b0
              try clear c34
              try clear c34b0
              try clear c34b1
              try clear c35
              try clear c35b0
              try clear c36
              try clear c36b0
              try clear c36b1
              try clear hx118_0
              try clear hx119_0
              try clear p118
              try clear p119
              try clear p2
              try clear p6
              try clear q118
              try clear q119
              obtain ⟨x18_5, rfl, HA, HK5, HO_10, HO_12, HO_15, HB⟩ := hrel
              cases gk with
              | zero => exact absurd HA.out (by simp [culletlaw11_GenerAny.l2])
              | succ k5 =>
               have H := HA.out
               clear HA
               simp only [culletlaw11_GenerAny.l2] at H
               by_cases c42 : x18_5 < (wrap64 (t102 + t103))
               ·rw [if_pos c42] at H
                have c42b0 : decide (x18_5 < (wrap64 (t102 + t103))) = true := decide_eq_true c42
                clear c42
                have H' := Aside0.mk H
                clear H
                go_wp2
                repeat (go_quiet (fail); try go_wp2)
                go_loopg [19] k5 (fun kq v19 w' => ∃ (x19_6 : Int), v19 = .int .i64 x19_6 ∧ Aside0 (culletlaw11_GenerAny.l3 kq t102 t103 t104 t108 t114 x18_5 x19_6 = some r) ∧ Aside0 (kq ≤ k5) ∧ Aside0 (Kd.N (Kd.slice 5 (Kd.int .u8)) 22 w' w.heap.size (fun k_ => some k_ ≠ ((.slice Ao21 t108.length co21) : Value).ownBlock ∧ some k_ ≠ (v115 : Value).ownBlock) v105 t104) ∧ Aside0 (Kd.R (Kd.int .i64) 3 w' w.heap.size (fun _ => True) (.slice Ao21 t108.length co21) t108) ∧ Aside0 (Kd.N (Kd.slice 5 (Kd.int .u8)) 22 w' w.heap.size (fun k_ => some k_ ≠ (v105 : Value).ownBlock ∧ some k_ ≠ ((.slice Ao21 t108.length co21) : Value).ownBlock) v115 t114) ∧ Aside0 (Below w.heap.size w w'))
                case atStart => exact ⟨(0), (by first | rfl | (simp; done) | (simp [*]; done)), H', ⟨Nat.le_refl _⟩, ⟨by (with_reducible repeat (first | apply Kd.N_alloc | apply Kd.N_drewN | apply Kd.N_drew)); exact HO_10.out⟩, ⟨by (with_reducible repeat (first | apply Kd.R_alloc | apply Kd.R_drewN | apply Kd.R_drew)); exact HO_12.out⟩, ⟨by (with_reducible repeat (first | apply Kd.N_alloc | apply Kd.N_drewN | apply Kd.N_drew)); exact HO_15.out⟩, ⟨by repeat (first | (with_reducible first | exact HB.out | apply below_alloc | apply pw_below_drewN | apply below_drew1) | exact HB.out)⟩⟩
                case round =>
                 clear H'
                 try clear c1
                 try clear p1
                 try clear q1
                 try clear hx1
                 try clear c2
                 try clear p2
                 try clear c3
                 try clear c4
                 try clear c5
                 try clear c6
                 try clear p6
                 try clear c11
                 try clear p11
                 try clear q11
                 try clear hx11
                 try clear c16
                 try clear c16b0
                 try clear c17
                 try clear c24
                 try clear c24b0
                 try clear c24b1
                 try clear c25
                 try clear c25b0
                 try clear c25b1
                 try clear c26
                 try clear c26b0
                 try clear c26b1
                 try clear c30
                 try clear c31
                 try clear c31b0
                 try clear c32
                 try clear c32b0
                 try clear c33
                 try clear c33b0
                 try clear c34
                 try clear c34b0
                 try clear c34b1
                 try clear c35
                 try clear c35b0
                 try clear c36
                 try clear c36b0
                 try clear c36b1
                 try clear c42
                 try clear c42b0
                 try clear hx118_0
                 try clear hx119_0
                 try clear p1
                 try clear p11
                 try clear p118
                 try clear p119
                 try clear p2
                 try clear p6
                 try clear q1
                 try clear q11
                 try clear q118
                 try clear q119
                 obtain ⟨x19_6, rfl, HA, HK6, HO_10, HO_12, HO_15, HB⟩ := hrel
                 cases gk with
                 | zero => exact absurd HA.out (by simp [culletlaw11_GenerAny.l3])
                 | succ k6 =>
                  have H := HA.out
                  clear HA
                  simp only [culletlaw11_GenerAny.l3] at H
                  by_cases c43 : x19_6 < t102
                  ·rw [if_pos c43] at H
                   have c43b0 : decide (x19_6 < t102) = true := decide_eq_true c43
                   clear c43
                   have H' := Aside0.mk H
                   clear H
                   go_wp2
                   repeat (go_quiet (fail); try go_wp2)
                   go_loopg [20, 21] k6 (fun kq v20 v21 w' => ∃ (x20_7 : Int) (x21_7 : Int), v20 = .int .u8 x20_7 ∧ v21 = .int .i64 x21_7 ∧ Aside0 (culletlaw11_GenerAny.l4 kq t102 t103 t104 t108 t114 x18_5 x19_6 x20_7 x21_7 = some r) ∧ Aside0 (kq ≤ k6) ∧ Aside0 (Kd.N (Kd.slice 5 (Kd.int .u8)) 22 w' w.heap.size (fun k_ => some k_ ≠ ((.slice Ao21 t108.length co21) : Value).ownBlock ∧ some k_ ≠ (v115 : Value).ownBlock) v105 t104) ∧ Aside0 (Kd.R (Kd.int .i64) 3 w' w.heap.size (fun _ => True) (.slice Ao21 t108.length co21) t108) ∧ Aside0 (Kd.N (Kd.slice 5 (Kd.int .u8)) 22 w' w.heap.size (fun k_ => some k_ ≠ (v105 : Value).ownBlock ∧ some k_ ≠ ((.slice Ao21 t108.length co21) : Value).ownBlock) v115 t114) ∧ Aside0 (Below w.heap.size w w'))
                   case atStart => exact ⟨(0), (0), (by first | rfl | (simp; done) | (simp [*]; done)), (by first | rfl | (simp; done) | (simp [*]; done)), H', ⟨Nat.le_refl _⟩, ⟨by (with_reducible repeat (first | apply Kd.N_alloc | apply Kd.N_drewN | apply Kd.N_drew)); exact HO_10.out⟩, ⟨by (with_reducible repeat (first | apply Kd.R_alloc | apply Kd.R_drewN | apply Kd.R_drew)); exact HO_12.out⟩, ⟨by (with_reducible repeat (first | apply Kd.N_alloc | apply Kd.N_drewN | apply Kd.N_drew)); exact HO_15.out⟩, ⟨by repeat (first | (with_reducible first | exact HB.out | apply below_alloc | apply pw_below_drewN | apply below_drew1) | exact HB.out)⟩⟩
                   case round =>
                    clear H'
                    try clear c1
                    try clear p1
                    try clear q1
                    try clear hx1
                    try clear c2
                    try clear p2
                    try clear c3
                    try clear c4
                    try clear c5
                    try clear c6
                    try clear p6
                    try clear c11
                    try clear p11
                    try clear q11
                    try clear hx11
                    try clear c16
                    try clear c16b0
                    try clear c17
                    try clear c24
                    try clear c24b0
                    try clear c24b1
                    try clear c25
                    try clear c25b0
                    try clear c25b1
                    try clear c26
                    try clear c26b0
                    try clear c26b1
                    try clear c30
                    try clear c31
                    try clear c31b0
                    try clear c32
                    try clear c32b0
                    try clear c33
                    try clear c33b0
                    try clear c34
                    try clear c34b0
                    try clear c34b1
                    try clear c35
                    try clear c35b0
                    try clear c36
                    try clear c36b0
                    try clear c36b1
                    try clear c42
                    try clear c42b0
                    try clear c43
                    try clear c43b0
                    try clear hx118_0
                    try clear hx119_0
                    try clear p1
                    try clear p11
                    try clear p118
                    try clear p119
                    try clear p2
                    try clear p6
                    try clear q1
                    try clear q11
                    try clear q118
                    try clear q119
                    obtain ⟨x20_7, x21_7, rfl, rfl, HA, HK7, HO_10, HO_12, HO_15, HB⟩ := hrel
                    cases gk with
                    | zero => exact absurd HA.out (by simp [culletlaw11_GenerAny.l4])
                    | succ k7 =>
                     have H := HA.out
                     clear HA
                     simp only [culletlaw11_GenerAny.l4] at H
                     by_cases c44 : x21_7 < t102
                     ·rw [if_pos c44] at H
                      have c44b0 : decide (x21_7 < t102) = true := decide_eq_true c44
                      clear c44
                      by_cases c45 : 0 ≤ x18_5
                      ·rw [if_pos c45] at H
                       have c45b0 : decide (0 ≤ x18_5) = true := decide_eq_true c45
                       clear c45
                       by_cases c46 : x18_5 < (t114.length : Int)
                       ·rw [if_pos c46] at H
                        have c46b0 : decide (x18_5 < (t114.length : Int)) = true := decide_eq_true c46
                        clear c46
                        by_cases c47 : 0 ≤ x21_7
                        ·rw [if_pos c47] at H
                         have c47b0 : decide (0 ≤ x21_7) = true := decide_eq_true c47
                         clear c47
                         by_cases c48 : x21_7 < ((rd_L1 t114 x18_5).length : Int)
                         ·rw [if_pos c48] at H
                          have c48b0 : decide (x21_7 < ((rd_L1 t114 x18_5).length : Int)) = true := decide_eq_true c48
                          clear c48
                          by_cases c49 : x21_7 < (t108.length : Int)
                          ·rw [if_pos c49] at H
                           have c49b0 : decide (x21_7 < (t108.length : Int)) = true := decide_eq_true c49
                           clear c49
                           by_cases c50 : 0 ≤ (rd t108 x21_7)
                           ·rw [if_pos c50] at H
                            have c50b0 : decide (0 ≤ (rd t108 x21_7)) = true := decide_eq_true c50
                            clear c50
                            by_cases c51 : (rd t108 x21_7) < (t104.length : Int)
                            ·rw [if_pos c51] at H
                             have c51b0 : decide ((rd t108 x21_7) < (t104.length : Int)) = true := decide_eq_true c51
                             clear c51
                             by_cases c52 : 0 ≤ x19_6
                             ·rw [if_pos c52] at H
                              have c52b0 : decide (0 ≤ x19_6) = true := decide_eq_true c52
                              clear c52
                              by_cases c53 : x19_6 < ((rd_L1 t104 (rd t108 x21_7)).length : Int)
                              ·rw [if_pos c53] at H
                               have c53b0 : decide (x19_6 < ((rd_L1 t104 (rd t108 x21_7)).length : Int)) = true := decide_eq_true c53
                               clear c53
                               replace H := Option.bind_eq_some_iff.mp H
                               obtain ⟨t125, A540, H⟩ := H
                               replace H : (culletlaw11_GenerAny.l4 k7 t102 t103 t104 t108 t114 x18_5 x19_6 (Go.bits .xor .u8 x20_7 t125) (wrap64 (x21_7 + 1))) = some r := H
                               have A54 := Aside0.mk A540
                               clear A540
                               have H' := Aside0.mk H
                               clear H
                               obtain ⟨Ao55, co55, eo55⟩ := Kd.N_slice HO_15.out
                               subst eo55
                               have p120 : 0 ≤ (x18_5 : Int) := of_decide_eq_true (by first | (with_reducible assumption) | assumption)
                               have q120 : x18_5 < (t114.length : Int) := of_decide_eq_true (by first | (with_reducible assumption) | assumption)
                               obtain ⟨ad120, A120_0, c120_0, e120, hx120_0, hl120_0, hi120_0⟩ := at_L1 (Kd.N_reads' HO_15.out).2.2 x18_5 p120 q120
                               cases e120
                               obtain ⟨ce120, hce120, hMe120, hcc120⟩ := Kd.N_get HO_15.out [] x18_5 p120 (by first | exact q120 | exact of_decide_eq_true (by first | (with_reducible assumption) | assumption) | (have e_ := (Kd.N_reads' HO_15.out).1; omega))
                               obtain ⟨ua120_0, uc120_0, rfl, ul120_0, ge120_0⟩ := Kd.FK_slice_open hMe120
                               have hv120_0 := hcc120 0 _ rfl
                               rw [Nat.add_zero, show ((Kd.slice 5 (Kd.int .u8))).sz = 1 from rfl, Nat.mul_one] at hv120_0
                               replace hv120_0 := Option.some.inj (hv120_0.symm.trans hx120_0)
                               injection hv120_0 with hva_ hvn_ hvc_
                               rw [hva_] at ge120_0
                               rw [hvc_] at ul120_0
                               have HL120_0 := Aside0.mk (show Kd.V (Kd.int .u8) 5 _ w.heap.size _ _ (rd_L1 t114 x18_5) from Kd.V_mk ul120_0 ge120_0)
                               clear hva_ hvn_ hvc_ ge120_0 ul120_0
                               clear hcc120 hce120
                               have HR120_0 := Aside0.mk hi120_0
                               have HC120_0 := Aside0.mk hl120_0
                               clear hi120_0 hl120_0
                               replace p120 := eq_true p120
                               replace q120 := eq_true q120
                               have p121 : 0 ≤ (x21_7 : Int) := of_decide_eq_true (by first | (with_reducible assumption) | assumption)
                               have q121 : x21_7 < ((rd_L1 t114 x18_5).length : Int) := of_decide_eq_true (by first | (with_reducible assumption) | assumption)
                               obtain ⟨ad121, e121, hx121_0⟩ := Kd.at_int (by repeat (first | (with_reducible exact HR120_0.out) | (with_reducible refine Kd.C_alloc ?_ _) | (with_reducible refine Kd.C_drewN ?_ _) | (with_reducible refine Kd.C_drew ?_) | exact HR120_0.out)) x21_7 p121 q121
                               cases e121
                               replace p121 := eq_true p121
                               replace q121 := eq_true q121
                               have p122 : 0 ≤ (x21_7 : Int) := of_decide_eq_true (by first | (with_reducible assumption) | assumption)
                               have q122 : x21_7 < (t108.length : Int) := of_decide_eq_true (by first | (with_reducible assumption) | assumption)
                               obtain ⟨ad122, e122, hx122_0⟩ := Kd.at_int (Kd.R_reads' HO_12.out).2.2 x21_7 p122 q122
                               cases e122
                               replace p122 := eq_true p122
                               replace q122 := eq_true q122
                               obtain ⟨Ao56, co56, eo56⟩ := Kd.N_slice HO_10.out
                               subst eo56
                               have p123 : 0 ≤ ((rd t108 x21_7) : Int) := of_decide_eq_true (by first | (with_reducible assumption) | assumption)
                               have q123 : (rd t108 x21_7) < (t104.length : Int) := of_decide_eq_true (by first | (with_reducible assumption) | assumption)
                               obtain ⟨ad123, A123_0, c123_0, e123, hx123_0, hl123_0, hi123_0⟩ := at_L1 (Kd.N_reads' HO_10.out).2.2 (rd t108 x21_7) p123 q123
                               cases e123
                               obtain ⟨ce123, hce123, hMe123, hcc123⟩ := Kd.N_get HO_10.out [] (rd t108 x21_7) p123 (by first | exact q123 | exact of_decide_eq_true (by first | (with_reducible assumption) | assumption) | (have e_ := (Kd.N_reads' HO_10.out).1; omega))
                               obtain ⟨ua123_0, uc123_0, rfl, ul123_0, ge123_0⟩ := Kd.FK_slice_open hMe123
                               have hv123_0 := hcc123 0 _ rfl
                               rw [Nat.add_zero, show ((Kd.slice 5 (Kd.int .u8))).sz = 1 from rfl, Nat.mul_one] at hv123_0
                               replace hv123_0 := Option.some.inj (hv123_0.symm.trans hx123_0)
                               injection hv123_0 with hva_ hvn_ hvc_
                               rw [hva_] at ge123_0
                               rw [hvc_] at ul123_0
                               have HL123_0 := Aside0.mk (show Kd.V (Kd.int .u8) 5 _ w.heap.size _ _ (rd_L1 t104 (rd t108 x21_7)) from Kd.V_mk ul123_0 ge123_0)
                               clear hva_ hvn_ hvc_ ge123_0 ul123_0
                               clear hcc123 hce123
                               have HR123_0 := Aside0.mk hi123_0
                               have HC123_0 := Aside0.mk hl123_0
                               clear hi123_0 hl123_0
                               replace p123 := eq_true p123
                               replace q123 := eq_true q123
                               have p124 : 0 ≤ (x19_6 : Int) := of_decide_eq_true (by first | (with_reducible assumption) | assumption)
                               have q124 : x19_6 < ((rd_L1 t104 (rd t108 x21_7)).length : Int) := of_decide_eq_true (by first | (with_reducible assumption) | assumption)
                               obtain ⟨ad124, e124, hx124_0⟩ := Kd.at_int (by repeat (first | (with_reducible exact HR123_0.out) | (with_reducible refine Kd.C_alloc ?_ _) | (with_reducible refine Kd.C_drewN ?_ _) | (with_reducible refine Kd.C_drew ?_) | exact HR123_0.out)) x19_6 p124 q124
                               cases e124
                               replace p124 := eq_true p124
                               replace q124 := eq_true q124
                               go_wp2_with (first | (go_at_call 18; (with_reducible refine (gf8_Mul.calls k7 (rd (rd_L1 t114 x18_5) x21_7) (rd (rd_L1 t104 (rd t108 x21_7)) x19_6) t125 _ A54.out).mono ?_); rintro e w' ⟨rfl, ⟨nd, rfl⟩⟩; (try first | exact ⟨rfl, _, World.drewN_drewN _ _ _⟩ | exact ⟨rfl, _, Eq.trans (World.drewN_drewN _ _ _) (congrArg (World.drewN _) (Nat.add_assoc _ _ _))⟩)))
                               repeat (go_quiet (first | (go_at_call 18; (with_reducible refine (gf8_Mul.calls k7 (rd (rd_L1 t114 x18_5) x21_7) (rd (rd_L1 t104 (rd t108 x21_7)) x19_6) t125 _ A54.out).mono ?_); rintro e w' ⟨rfl, ⟨nd, rfl⟩⟩; (try first | exact ⟨rfl, _, World.drewN_drewN _ _ _⟩ | exact ⟨rfl, _, Eq.trans (World.drewN_drewN _ _ _) (congrArg (World.drewN _) (Nat.add_assoc _ _ _))⟩))); try go_wp2_with (first | (go_at_call 18; (with_reducible refine (gf8_Mul.calls k7 (rd (rd_L1 t114 x18_5) x21_7) (rd (rd_L1 t104 (rd t108 x21_7)) x19_6) t125 _ A54.out).mono ?_); rintro e w' ⟨rfl, ⟨nd, rfl⟩⟩; (try first | exact ⟨rfl, _, World.drewN_drewN _ _ _⟩ | exact ⟨rfl, _, Eq.trans (World.drewN_drewN _ _ _) (congrArg (World.drewN _) (Nat.add_assoc _ _ _))⟩))))
                               go_roundg k7
                               case measure => have := HJ8.out; have := HK2.out; have := HJ19.out; have := HK4.out; have := HK5.out; have := HK6.out; have := HK7.out; omega
                               case rel => exact ⟨(Go.bits .xor .u8 x20_7 t125), (wrap64 (x21_7 + 1)), (by first | rfl | (simp; done) | (simp [*]; done)), (by first | rfl | (simp; done) | (simp [*]; done)), H', ⟨by have := HJ8.out; have := HK2.out; have := HJ19.out; have := HK4.out; have := HK5.out; have := HK6.out; have := HK7.out; omega⟩, ⟨by (with_reducible repeat (first | apply Kd.N_alloc | apply Kd.N_drewN | apply Kd.N_drew)); exact HO_10.out⟩, ⟨by (with_reducible repeat (first | apply Kd.R_alloc | apply Kd.R_drewN | apply Kd.R_drew)); exact HO_12.out⟩, ⟨by (with_reducible repeat (first | apply Kd.N_alloc | apply Kd.N_drewN | apply Kd.N_drew)); exact HO_15.out⟩, ⟨by repeat (first | (with_reducible first | exact HB.out | apply below_alloc | apply pw_below_drewN | apply below_drew1) | exact HB.out)⟩⟩
                              ·rw [if_neg c53] at H
                               exact absurd H (by simp)
                             ·rw [if_neg c52] at H
                              exact absurd H (by simp)
                            ·rw [if_neg c51] at H
                             exact absurd H (by simp)
                           ·rw [if_neg c50] at H
                            exact absurd H (by simp)
                          ·rw [if_neg c49] at H
                           exact absurd H (by simp)
                         ·rw [if_neg c48] at H
                          exact absurd H (by simp)
                        ·rw [if_neg c47] at H
                         exact absurd H (by simp)
                       ·rw [if_neg c46] at H
                        exact absurd H (by simp)
                      ·rw [if_neg c45] at H
                       exact absurd H (by simp)
                     ·rw [if_neg c44] at H
                      have c44b0 : decide (x21_7 < t102) = false := decide_eq_false c44
                      clear c44
                      by_cases c57 : 0 ≤ x18_5
                      ·rw [if_pos c57] at H
                       have c57b0 : decide (0 ≤ x18_5) = true := decide_eq_true c57
                       clear c57
                       by_cases c58 : x18_5 < (t104.length : Int)
                       ·rw [if_pos c58] at H
                        have c58b0 : decide (x18_5 < (t104.length : Int)) = true := decide_eq_true c58
                        clear c58
                        by_cases c59 : 0 ≤ x19_6
                        ·rw [if_pos c59] at H
                         have c59b0 : decide (0 ≤ x19_6) = true := decide_eq_true c59
                         clear c59
                         by_cases c60 : x19_6 < ((rd_L1 t104 x18_5).length : Int)
                         ·rw [if_pos c60] at H
                          have c60b0 : decide (x19_6 < ((rd_L1 t104 x18_5).length : Int)) = true := decide_eq_true c60
                          clear c60
                          by_cases c61 : x20_7 = (rd (rd_L1 t104 x18_5) x19_6)
                          ·rw [if_pos c61] at H
                           have c61b0 : (x20_7 == (rd (rd_L1 t104 x18_5) x19_6)) = true := beq_iff_eq.mpr c61
                           have c61b1 : (x20_7 != (rd (rd_L1 t104 x18_5) x19_6)) = false := bne_eq_false_iff_eq.mpr c61
                           clear c61
                           have H' := Aside0.mk H
                           clear H
                           obtain ⟨Ao62, co62, eo62⟩ := Kd.N_slice HO_10.out
                           subst eo62
                           have p126 : 0 ≤ (x18_5 : Int) := of_decide_eq_true (by first | (with_reducible assumption) | assumption)
                           have q126 : x18_5 < (t104.length : Int) := of_decide_eq_true (by first | (with_reducible assumption) | assumption)
                           obtain ⟨ad126, A126_0, c126_0, e126, hx126_0, hl126_0, hi126_0⟩ := at_L1 (Kd.N_reads' HO_10.out).2.2 x18_5 p126 q126
                           cases e126
                           obtain ⟨ce126, hce126, hMe126, hcc126⟩ := Kd.N_get HO_10.out [] x18_5 p126 (by first | exact q126 | exact of_decide_eq_true (by first | (with_reducible assumption) | assumption) | (have e_ := (Kd.N_reads' HO_10.out).1; omega))
                           obtain ⟨ua126_0, uc126_0, rfl, ul126_0, ge126_0⟩ := Kd.FK_slice_open hMe126
                           have hv126_0 := hcc126 0 _ rfl
                           rw [Nat.add_zero, show ((Kd.slice 5 (Kd.int .u8))).sz = 1 from rfl, Nat.mul_one] at hv126_0
                           replace hv126_0 := Option.some.inj (hv126_0.symm.trans hx126_0)
                           injection hv126_0 with hva_ hvn_ hvc_
                           rw [hva_] at ge126_0
                           rw [hvc_] at ul126_0
                           have HL126_0 := Aside0.mk (show Kd.V (Kd.int .u8) 5 _ w.heap.size _ _ (rd_L1 t104 x18_5) from Kd.V_mk ul126_0 ge126_0)
                           clear hva_ hvn_ hvc_ ge126_0 ul126_0
                           clear hcc126 hce126
                           have HR126_0 := Aside0.mk hi126_0
                           have HC126_0 := Aside0.mk hl126_0
                           clear hi126_0 hl126_0
                           replace p126 := eq_true p126
                           replace q126 := eq_true q126
                           have p127 : 0 ≤ (x19_6 : Int) := of_decide_eq_true (by first | (with_reducible assumption) | assumption)
                           have q127 : x19_6 < ((rd_L1 t104 x18_5).length : Int) := of_decide_eq_true (by first | (with_reducible assumption) | assumption)
                           obtain ⟨ad127, e127, hx127_0⟩ := Kd.at_int (by repeat (first | (with_reducible exact HR126_0.out) | (with_reducible refine Kd.C_alloc ?_ _) | (with_reducible refine Kd.C_drewN ?_ _) | (with_reducible refine Kd.C_drew ?_) | exact HR126_0.out)) x19_6 p127 q127
                           cases e127
                           replace p127 := eq_true p127
                           replace q127 := eq_true q127
                           go_wp2
                           repeat (go_quiet (fail); try go_wp2)
                           go_roundg k7
                           case measure => have := HJ8.out; have := HK2.out; have := HJ19.out; have := HK4.out; have := HK5.out; have := HK6.out; have := HK7.out; omega
                           case rel => exact ⟨(wrap64 (x19_6 + 1)), (by first | rfl | (simp; done) | (simp [*]; done)), H', ⟨by have := HJ8.out; have := HK2.out; have := HJ19.out; have := HK4.out; have := HK5.out; have := HK6.out; have := HK7.out; omega⟩, ⟨by (with_reducible repeat (first | apply Kd.N_alloc | apply Kd.N_drewN | apply Kd.N_drew)); exact HO_10.out⟩, ⟨by (with_reducible repeat (first | apply Kd.R_alloc | apply Kd.R_drewN | apply Kd.R_drew)); exact HO_12.out⟩, ⟨by (with_reducible repeat (first | apply Kd.N_alloc | apply Kd.N_drewN | apply Kd.N_drew)); exact HO_15.out⟩, ⟨by repeat (first | (with_reducible first | exact HB.out | apply below_alloc | apply pw_below_drewN | apply below_drew1) | exact HB.out)⟩⟩
                          ·rw [if_neg c61] at H
                           have c61b0 : (x20_7 == (rd (rd_L1 t104 x18_5) x19_6)) = false := beq_eq_false_iff_ne.mpr c61
                           have c61b1 : (x20_7 != (rd (rd_L1 t104 x18_5) x19_6)) = true := bne_iff_ne.mpr c61
                           obtain rfl := Option.some.inj H
                           obtain ⟨Ao63, co63, eo63⟩ := Kd.N_slice HO_10.out
                           subst eo63
                           have p126 : 0 ≤ (x18_5 : Int) := of_decide_eq_true (by first | (with_reducible assumption) | assumption)
                           have q126 : x18_5 < (t104.length : Int) := of_decide_eq_true (by first | (with_reducible assumption) | assumption)
                           obtain ⟨ad126, A126_0, c126_0, e126, hx126_0, hl126_0, hi126_0⟩ := at_L1 (Kd.N_reads' HO_10.out).2.2 x18_5 p126 q126
                           cases e126
                           obtain ⟨ce126, hce126, hMe126, hcc126⟩ := Kd.N_get HO_10.out [] x18_5 p126 (by first | exact q126 | exact of_decide_eq_true (by first | (with_reducible assumption) | assumption) | (have e_ := (Kd.N_reads' HO_10.out).1; omega))
                           obtain ⟨ua126_0, uc126_0, rfl, ul126_0, ge126_0⟩ := Kd.FK_slice_open hMe126
                           have hv126_0 := hcc126 0 _ rfl
                           rw [Nat.add_zero, show ((Kd.slice 5 (Kd.int .u8))).sz = 1 from rfl, Nat.mul_one] at hv126_0
                           replace hv126_0 := Option.some.inj (hv126_0.symm.trans hx126_0)
                           injection hv126_0 with hva_ hvn_ hvc_
                           rw [hva_] at ge126_0
                           rw [hvc_] at ul126_0
                           have HL126_0 := Aside0.mk (show Kd.V (Kd.int .u8) 5 _ w.heap.size _ _ (rd_L1 t104 x18_5) from Kd.V_mk ul126_0 ge126_0)
                           clear hva_ hvn_ hvc_ ge126_0 ul126_0
                           clear hcc126 hce126
                           have HR126_0 := Aside0.mk hi126_0
                           have HC126_0 := Aside0.mk hl126_0
                           clear hi126_0 hl126_0
                           replace p126 := eq_true p126
                           replace q126 := eq_true q126
                           have p127 : 0 ≤ (x19_6 : Int) := of_decide_eq_true (by first | (with_reducible assumption) | assumption)
                           have q127 : x19_6 < ((rd_L1 t104 x18_5).length : Int) := of_decide_eq_true (by first | (with_reducible assumption) | assumption)
                           obtain ⟨ad127, e127, hx127_0⟩ := Kd.at_int (by repeat (first | (with_reducible exact HR126_0.out) | (with_reducible refine Kd.C_alloc ?_ _) | (with_reducible refine Kd.C_drewN ?_ _) | (with_reducible refine Kd.C_drew ?_) | exact HR126_0.out)) x19_6 p127 q127
                           cases e127
                           replace p127 := eq_true p127
                           replace q127 := eq_true q127
                           go_wp2
                           repeat (go_quiet (fail); try go_wp2)
                           go_ret
                           exact ⟨by first | rfl | (simp [errW_none, errW_some] <;> rfl) | (simp [*, errW_none, errW_some] <;> rfl), by repeat (first | (with_reducible first | exact HB.out | apply below_alloc | apply pw_below_drewN | apply below_drew1) | exact HB.out)⟩
                         ·rw [if_neg c60] at H
                          exact absurd H (by simp)
                        ·rw [if_neg c59] at H
                         exact absurd H (by simp)
                       ·rw [if_neg c58] at H
                        exact absurd H (by simp)
                      ·rw [if_neg c57] at H
                       exact absurd H (by simp)
                  ·rw [if_neg c43] at H
                   have c43b0 : decide (x19_6 < t102) = false := decide_eq_false c43
                   clear c43
                   have H' := Aside0.mk H
                   clear H
                   go_wp2
                   repeat (go_quiet (fail); try go_wp2)
                   go_roundg k6
                   case measure => have := HJ8.out; have := HK2.out; have := HJ19.out; have := HK4.out; have := HK5.out; have := HK6.out; omega
                   case rel => exact ⟨(wrap64 (x18_5 + 1)), (by first | rfl | (simp; done) | (simp [*]; done)), H', ⟨by have := HJ8.out; have := HK2.out; have := HJ19.out; have := HK4.out; have := HK5.out; have := HK6.out; omega⟩, ⟨by (with_reducible repeat (first | apply Kd.N_alloc | apply Kd.N_drewN | apply Kd.N_drew)); exact HO_10.out⟩, ⟨by (with_reducible repeat (first | apply Kd.R_alloc | apply Kd.R_drewN | apply Kd.R_drew)); exact HO_12.out⟩, ⟨by (with_reducible repeat (first | apply Kd.N_alloc | apply Kd.N_drewN | apply Kd.N_drew)); exact HO_15.out⟩, ⟨by repeat (first | (with_reducible first | exact HB.out | apply below_alloc | apply pw_below_drewN | apply below_drew1) | exact HB.out)⟩⟩
               ·rw [if_neg c42] at H
                have c42b0 : decide (x18_5 < (wrap64 (t102 + t103))) = false := decide_eq_false c42
                clear c42
                have H' := Aside0.mk H
                clear H
                go_wp2
                repeat (go_quiet (fail); try go_wp2)
                go_loopg [22] k5 (fun kq v22 w' => ∃ (x22_6 : Int), v22 = .int .i64 x22_6 ∧ Aside0 (culletlaw11_GenerAny.l5 kq t102 t104 t108 t114 x22_6 = some r) ∧ Aside0 (kq ≤ k5) ∧ Aside0 (Kd.N (Kd.slice 5 (Kd.int .u8)) 22 w' w.heap.size (fun k_ => some k_ ≠ ((.slice Ao21 t108.length co21) : Value).ownBlock ∧ some k_ ≠ (v115 : Value).ownBlock) v105 t104) ∧ Aside0 (Kd.R (Kd.int .i64) 3 w' w.heap.size (fun _ => True) (.slice Ao21 t108.length co21) t108) ∧ Aside0 (Kd.N (Kd.slice 5 (Kd.int .u8)) 22 w' w.heap.size (fun k_ => some k_ ≠ (v105 : Value).ownBlock ∧ some k_ ≠ ((.slice Ao21 t108.length co21) : Value).ownBlock) v115 t114) ∧ Aside0 (Below w.heap.size w w'))
                case atStart => exact ⟨(0), (by first | rfl | (simp; done) | (simp [*]; done)), H', ⟨Nat.le_refl _⟩, ⟨by (with_reducible repeat (first | apply Kd.N_alloc | apply Kd.N_drewN | apply Kd.N_drew)); exact HO_10.out⟩, ⟨by (with_reducible repeat (first | apply Kd.R_alloc | apply Kd.R_drewN | apply Kd.R_drew)); exact HO_12.out⟩, ⟨by (with_reducible repeat (first | apply Kd.N_alloc | apply Kd.N_drewN | apply Kd.N_drew)); exact HO_15.out⟩, ⟨by repeat (first | (with_reducible first | exact HB.out | apply below_alloc | apply pw_below_drewN | apply below_drew1) | exact HB.out)⟩⟩
                case round =>
                 clear H'
                 try clear c1
                 try clear p1
                 try clear q1
                 try clear hx1
                 try clear c2
                 try clear p2
                 try clear c3
                 try clear c4
                 try clear c5
                 try clear c6
                 try clear p6
                 try clear c11
                 try clear p11
                 try clear q11
                 try clear hx11
                 try clear c12
                 try clear p12
                 try clear q12
                 try clear hx12
                 try clear c16
                 try clear c16b0
                 try clear c17
                 try clear c24
                 try clear c24b0
                 try clear c24b1
                 try clear c25
                 try clear c25b0
                 try clear c25b1
                 try clear c26
                 try clear c26b0
                 try clear c26b1
                 try clear c30
                 try clear c31
                 try clear c31b0
                 try clear c32
                 try clear c32b0
                 try clear c33
                 try clear c33b0
                 try clear c34
                 try clear c34b0
                 try clear c34b1
                 try clear c35
                 try clear c35b0
                 try clear c36
                 try clear c36b0
                 try clear c36b1
                 try clear c42
                 try clear c42b0
                 try clear c43
                 try clear c43b0
                 try clear c44
                 try clear c44b0
                 try clear c45
                 try clear c45b0
                 try clear c46
                 try clear c46b0
                 try clear c47
                 try clear c47b0
                 try clear c48
                 try clear c48b0
                 try clear c49
                 try clear c49b0
                 try clear c50
                 try clear c50b0
                 try clear c51
                 try clear c51b0
                 try clear c52
                 try clear c52b0
                 try clear c53
                 try clear c53b0
                 try clear c57
                 try clear c57b0
                 try clear c58
                 try clear c58b0
                 try clear c59
                 try clear c59b0
                 try clear c60
                 try clear c60b0
                 try clear c61
                 try clear c61b0
                 try clear c61b1
                 try clear hx118_0
                 try clear hx119_0
                 try clear hx120_0
                 try clear hx121_0
                 try clear hx122_0
                 try clear hx123_0
                 try clear hx124_0
                 try clear hx126_0
                 try clear hx127_0
                 try clear p1
                 try clear p11
                 try clear p118
                 try clear p119
                 try clear p120
                 try clear p121
                 try clear p122
                 try clear p123
                 try clear p124
                 try clear p126
                 try clear p127
                 try clear p2
                 try clear p6
                 try clear q1
                 try clear q11
                 try clear q118
                 try clear q119
                 try clear q120
                 try clear q121
                 try clear q122
                 try clear q123
                 try clear q124
                 try clear q126
                 try clear q127
                 obtain ⟨x22_6, rfl, HA, HK6, HO_10, HO_12, HO_15, HB⟩ := hrel
                 cases gk with
                 | zero => exact absurd HA.out (by simp [culletlaw11_GenerAny.l5])
                 | succ k6 =>
                  have H := HA.out
                  clear HA
                  simp only [culletlaw11_GenerAny.l5] at H
                  by_cases c64 : x22_6 < t102
                  ·rw [if_pos c64] at H
                   have c64b0 : decide (x22_6 < t102) = true := decide_eq_true c64
                   clear c64
                   have H' := Aside0.mk H
                   clear H
                   go_wp2
                   repeat (go_quiet (fail); try go_wp2)
                   go_loopg [23] k6 (fun kq v23 w' => ∃ (x23_7 : Int), v23 = .int .i64 x23_7 ∧ Aside0 (culletlaw11_GenerAny.l6 kq t102 t104 t108 t114 x22_6 x23_7 = some r) ∧ Aside0 (kq ≤ k6) ∧ Aside0 (Kd.N (Kd.slice 5 (Kd.int .u8)) 22 w' w.heap.size (fun k_ => some k_ ≠ ((.slice Ao21 t108.length co21) : Value).ownBlock ∧ some k_ ≠ (v115 : Value).ownBlock) v105 t104) ∧ Aside0 (Kd.R (Kd.int .i64) 3 w' w.heap.size (fun _ => True) (.slice Ao21 t108.length co21) t108) ∧ Aside0 (Kd.N (Kd.slice 5 (Kd.int .u8)) 22 w' w.heap.size (fun k_ => some k_ ≠ (v105 : Value).ownBlock ∧ some k_ ≠ ((.slice Ao21 t108.length co21) : Value).ownBlock) v115 t114) ∧ Aside0 (Below w.heap.size w w'))
                   case atStart => exact ⟨(0), (by first | rfl | (simp; done) | (simp [*]; done)), H', ⟨Nat.le_refl _⟩, ⟨by (with_reducible repeat (first | apply Kd.N_alloc | apply Kd.N_drewN | apply Kd.N_drew)); exact HO_10.out⟩, ⟨by (with_reducible repeat (first | apply Kd.R_alloc | apply Kd.R_drewN | apply Kd.R_drew)); exact HO_12.out⟩, ⟨by (with_reducible repeat (first | apply Kd.N_alloc | apply Kd.N_drewN | apply Kd.N_drew)); exact HO_15.out⟩, ⟨by repeat (first | (with_reducible first | exact HB.out | apply below_alloc | apply pw_below_drewN | apply below_drew1) | exact HB.out)⟩⟩
                   case round =>
                    clear H'
                    try clear c1
                    try clear p1
                    try clear q1
                    try clear hx1
                    try clear c2
                    try clear p2
                    try clear c3
                    try clear c4
                    try clear c5
                    try clear c6
                    try clear p6
                    try clear c11
                    try clear p11
                    try clear q11
                    try clear hx11
                    try clear c12
                    try clear p12
                    try clear q12
                    try clear hx12
                    try clear c16
                    try clear c16b0
                    try clear c17
                    try clear c24
                    try clear c24b0
                    try clear c24b1
                    try clear c25
                    try clear c25b0
                    try clear c25b1
                    try clear c26
                    try clear c26b0
                    try clear c26b1
                    try clear c30
                    try clear c31
                    try clear c31b0
                    try clear c32
                    try clear c32b0
                    try clear c33
                    try clear c33b0
                    try clear c34
                    try clear c34b0
                    try clear c34b1
                    try clear c35
                    try clear c35b0
                    try clear c36
                    try clear c36b0
                    try clear c36b1
                    try clear c42
                    try clear c42b0
                    try clear c43
                    try clear c43b0
                    try clear c44
                    try clear c44b0
                    try clear c45
                    try clear c45b0
                    try clear c46
                    try clear c46b0
                    try clear c47
                    try clear c47b0
                    try clear c48
                    try clear c48b0
                    try clear c49
                    try clear c49b0
                    try clear c50
                    try clear c50b0
                    try clear c51
                    try clear c51b0
                    try clear c52
                    try clear c52b0
                    try clear c53
                    try clear c53b0
                    try clear c57
                    try clear c57b0
                    try clear c58
                    try clear c58b0
                    try clear c59
                    try clear c59b0
                    try clear c60
                    try clear c60b0
                    try clear c61
                    try clear c61b0
                    try clear c61b1
                    try clear c64
                    try clear c64b0
                    try clear p64
                    try clear hx118_0
                    try clear hx119_0
                    try clear hx120_0
                    try clear hx121_0
                    try clear hx122_0
                    try clear hx123_0
                    try clear hx124_0
                    try clear hx126_0
                    try clear hx127_0
                    try clear p1
                    try clear p11
                    try clear p118
                    try clear p119
                    try clear p12
                    try clear p120
                    try clear p121
                    try clear p122
                    try clear p123
                    try clear p124
                    try clear p126
                    try clear p127
                    try clear p2
                    try clear p6
                    try clear q1
                    try clear q11
                    try clear q118
                    try clear q119
                    try clear q12
                    try clear q120
                    try clear q121
                    try clear q122
                    try clear q123
                    try clear q124
                    try clear q126
                    try clear q127
                    obtain ⟨x23_7, rfl, HA, HK7, HO_10, HO_12, HO_15, HB⟩ := hrel
                    cases gk with
                    | zero => exact absurd HA.out (by simp [culletlaw11_GenerAny.l6])
                    | succ k7 =>
                     have H := HA.out
                     clear HA
                     simp only [culletlaw11_GenerAny.l6] at H
                     by_cases c65 : x23_7 < t102
                     ·rw [if_pos c65] at H
                      have c65b0 : decide (x23_7 < t102) = true := decide_eq_true c65
                      clear c65
                      by_cases c66 : 0 ≤ x22_6
                      ·rw [if_pos c66] at H
                       have c66b0 : decide (0 ≤ x22_6) = true := decide_eq_true c66
                       clear c66
                       by_cases c67 : x22_6 < (t108.length : Int)
                       ·rw [if_pos c67] at H
                        have c67b0 : decide (x22_6 < (t108.length : Int)) = true := decide_eq_true c67
                        clear c67
                        by_cases c68 : 0 ≤ (rd t108 x22_6)
                        ·rw [if_pos c68] at H
                         have c68b0 : decide (0 ≤ (rd t108 x22_6)) = true := decide_eq_true c68
                         clear c68
                         by_cases c69 : (rd t108 x22_6) < (t114.length : Int)
                         ·rw [if_pos c69] at H
                          have c69b0 : decide ((rd t108 x22_6) < (t114.length : Int)) = true := decide_eq_true c69
                          clear c69
                          by_cases c70 : 0 ≤ x23_7
                          ·rw [if_pos c70] at H
                           have c70b0 : decide (0 ≤ x23_7) = true := decide_eq_true c70
                           clear c70
                           by_cases c71 : x23_7 < ((rd_L1 t114 (rd t108 x22_6)).length : Int)
                           ·rw [if_pos c71] at H
                            have c71b0 : decide (x23_7 < ((rd_L1 t114 (rd t108 x22_6)).length : Int)) = true := decide_eq_true c71
                            clear c71
                            by_cases c72 : (((rd (rd_L1 t114 (rd t108 x22_6)) x23_7) == 1) != (x22_6 == x23_7)) = true
                            ·rw [if_pos c72] at H
                             have c72b0 : (((rd (rd_L1 t114 (rd t108 x22_6)) x23_7) == 1) != (x22_6 == x23_7)) = true := c72
                             (try (have c72b1 : decide (((rd (rd_L1 t114 (rd t108 x22_6)) x23_7) == 1) = (x22_6 == x23_7)) = false := by simpa using c72))
                             (try (have c72b2 : (((rd (rd_L1 t114 (rd t108 x22_6)) x23_7) == 1) == (x22_6 == x23_7)) = false := by simpa using c72))
                             (try (have c72b3 : ¬ (((rd (rd_L1 t114 (rd t108 x22_6)) x23_7) == 1) = (x22_6 == x23_7)) := by simpa using c72))
                             clear c72
                             obtain rfl := Option.some.inj H
                             have p128 : 0 ≤ (x22_6 : Int) := of_decide_eq_true (by first | (with_reducible assumption) | assumption)
                             have q128 : x22_6 < (t108.length : Int) := of_decide_eq_true (by first | (with_reducible assumption) | assumption)
                             obtain ⟨ad128, e128, hx128_0⟩ := Kd.at_int (Kd.R_reads' HO_12.out).2.2 x22_6 p128 q128
                             cases e128
                             replace p128 := eq_true p128
                             replace q128 := eq_true q128
                             obtain ⟨Ao73, co73, eo73⟩ := Kd.N_slice HO_15.out
                             subst eo73
                             have p129 : 0 ≤ ((rd t108 x22_6) : Int) := of_decide_eq_true (by first | (with_reducible assumption) | assumption)
                             have q129 : (rd t108 x22_6) < (t114.length : Int) := of_decide_eq_true (by first | (with_reducible assumption) | assumption)
                             obtain ⟨ad129, A129_0, c129_0, e129, hx129_0, hl129_0, hi129_0⟩ := at_L1 (Kd.N_reads' HO_15.out).2.2 (rd t108 x22_6) p129 q129
                             cases e129
                             obtain ⟨ce129, hce129, hMe129, hcc129⟩ := Kd.N_get HO_15.out [] (rd t108 x22_6) p129 (by first | exact q129 | exact of_decide_eq_true (by first | (with_reducible assumption) | assumption) | (have e_ := (Kd.N_reads' HO_15.out).1; omega))
                             obtain ⟨ua129_0, uc129_0, rfl, ul129_0, ge129_0⟩ := Kd.FK_slice_open hMe129
                             have hv129_0 := hcc129 0 _ rfl
                             rw [Nat.add_zero, show ((Kd.slice 5 (Kd.int .u8))).sz = 1 from rfl, Nat.mul_one] at hv129_0
                             replace hv129_0 := Option.some.inj (hv129_0.symm.trans hx129_0)
                             injection hv129_0 with hva_ hvn_ hvc_
                             rw [hva_] at ge129_0
                             rw [hvc_] at ul129_0
                             have HL129_0 := Aside0.mk (show Kd.V (Kd.int .u8) 5 _ w.heap.size _ _ (rd_L1 t114 (rd t108 x22_6)) from Kd.V_mk ul129_0 ge129_0)
                             clear hva_ hvn_ hvc_ ge129_0 ul129_0
                             clear hcc129 hce129
                             have HR129_0 := Aside0.mk hi129_0
                             have HC129_0 := Aside0.mk hl129_0
                             clear hi129_0 hl129_0
                             replace p129 := eq_true p129
                             replace q129 := eq_true q129
                             have p130 : 0 ≤ (x23_7 : Int) := of_decide_eq_true (by first | (with_reducible assumption) | assumption)
                             have q130 : x23_7 < ((rd_L1 t114 (rd t108 x22_6)).length : Int) := of_decide_eq_true (by first | (with_reducible assumption) | assumption)
                             obtain ⟨ad130, e130, hx130_0⟩ := Kd.at_int (by repeat (first | (with_reducible exact HR129_0.out) | (with_reducible refine Kd.C_alloc ?_ _) | (with_reducible refine Kd.C_drewN ?_ _) | (with_reducible refine Kd.C_drew ?_) | exact HR129_0.out)) x23_7 p130 q130
                             cases e130
                             replace p130 := eq_true p130
                             replace q130 := eq_true q130
                             go_wp2
                             repeat (go_quiet (fail); try go_wp2)
                             go_ret
                             exact ⟨by first | rfl | (simp [errW_none, errW_some] <;> rfl) | (simp [*, errW_none, errW_some] <;> rfl), by repeat (first | (with_reducible first | exact HB.out | apply below_alloc | apply pw_below_drewN | apply below_drew1) | exact HB.out)⟩
                            ·rw [if_neg c72] at H
                             have c72b0 : (((rd (rd_L1 t114 (rd t108 x22_6)) x23_7) == 1) != (x22_6 == x23_7)) = false := by simpa using c72
                             (try (have c72b1 : decide (((rd (rd_L1 t114 (rd t108 x22_6)) x23_7) == 1) = (x22_6 == x23_7)) = true := by simpa using c72))
                             (try (have c72b2 : (((rd (rd_L1 t114 (rd t108 x22_6)) x23_7) == 1) == (x22_6 == x23_7)) = true := by simpa using c72))
                             clear c72
                             by_cases c74 : x22_6 = x23_7
                             ·rw [if_pos c74] at H
                              have c74b0 : (x22_6 == x23_7) = true := beq_iff_eq.mpr c74
                              have c72z0 : ((rd (rd_L1 t114 (rd t108 x22_6)) x23_7) == 1) = true := by (have h := c72b0; rw [c74b0] at h; cases hz : ((rd (rd_L1 t114 (rd t108 x22_6)) x23_7) == 1) <;> rw [hz] at h <;> first | rfl | exact absurd h (by decide))
                              have c72z1 : ((rd (rd_L1 t114 (rd t108 x22_6)) x23_7) != 1) = false := by (show (!((rd (rd_L1 t114 (rd t108 x22_6)) x23_7) == 1)) = false; rw [c72z0]; rfl)
                              have c74b1 : (x22_6 != x23_7) = false := bne_eq_false_iff_eq.mpr c74
                              clear c74
                              by_cases c75 : x22_6 < (t104.length : Int)
                              ·rw [if_pos c75] at H
                               have c75b0 : decide (x22_6 < (t104.length : Int)) = true := decide_eq_true c75
                               clear c75
                               by_cases c76 : x23_7 < ((rd_L1 t104 x22_6).length : Int)
                               ·rw [if_pos c76] at H
                                have c76b0 : decide (x23_7 < ((rd_L1 t104 x22_6).length : Int)) = true := decide_eq_true c76
                                clear c76
                                by_cases c77 : (((rd (rd_L1 t104 x22_6) x23_7) == 1) != (x22_6 == x23_7)) = true
                                ·rw [if_pos c77] at H
                                 have c77b0 : (((rd (rd_L1 t104 x22_6) x23_7) == 1) != (x22_6 == x23_7)) = true := c77
                                 have c77z0 : ((rd (rd_L1 t104 x22_6) x23_7) == 1) = false := by (have h := c77b0; rw [c74b0] at h; cases hz : ((rd (rd_L1 t104 x22_6) x23_7) == 1) <;> rw [hz] at h <;> first | rfl | exact absurd h (by decide))
                                 have c77z1 : ((rd (rd_L1 t104 x22_6) x23_7) != 1) = true := by (show (!((rd (rd_L1 t104 x22_6) x23_7) == 1)) = true; rw [c77z0]; rfl)
                                 (try (have c77b1 : decide (((rd (rd_L1 t104 x22_6) x23_7) == 1) = (x22_6 == x23_7)) = false := by simpa using c77))
                                 (try (have c77b2 : (((rd (rd_L1 t104 x22_6) x23_7) == 1) == (x22_6 == x23_7)) = false := by simpa using c77))
                                 (try (have c77b3 : ¬ (((rd (rd_L1 t104 x22_6) x23_7) == 1) = (x22_6 == x23_7)) := by simpa using c77))
                                 clear c77
                                 obtain rfl := Option.some.inj H
                                 have p128 : 0 ≤ (x22_6 : Int) := of_decide_eq_true (by first | (with_reducible assumption) | assumption)
                                 have q128 : x22_6 < (t108.length : Int) := of_decide_eq_true (by first | (with_reducible assumption) | assumption)
                                 obtain ⟨ad128, e128, hx128_0⟩ := Kd.at_int (Kd.R_reads' HO_12.out).2.2 x22_6 p128 q128
                                 cases e128
                                 replace p128 := eq_true p128
                                 replace q128 := eq_true q128
                                 obtain ⟨Ao78, co78, eo78⟩ := Kd.N_slice HO_15.out
                                 subst eo78
                                 have p129 : 0 ≤ ((rd t108 x22_6) : Int) := of_decide_eq_true (by first | (with_reducible assumption) | assumption)
                                 have q129 : (rd t108 x22_6) < (t114.length : Int) := of_decide_eq_true (by first | (with_reducible assumption) | assumption)
                                 obtain ⟨ad129, A129_0, c129_0, e129, hx129_0, hl129_0, hi129_0⟩ := at_L1 (Kd.N_reads' HO_15.out).2.2 (rd t108 x22_6) p129 q129
                                 cases e129
                                 obtain ⟨ce129, hce129, hMe129, hcc129⟩ := Kd.N_get HO_15.out [] (rd t108 x22_6) p129 (by first | exact q129 | exact of_decide_eq_true (by first | (with_reducible assumption) | assumption) | (have e_ := (Kd.N_reads' HO_15.out).1; omega))
                                 obtain ⟨ua129_0, uc129_0, rfl, ul129_0, ge129_0⟩ := Kd.FK_slice_open hMe129
                                 have hv129_0 := hcc129 0 _ rfl
                                 rw [Nat.add_zero, show ((Kd.slice 5 (Kd.int .u8))).sz = 1 from rfl, Nat.mul_one] at hv129_0
                                 replace hv129_0 := Option.some.inj (hv129_0.symm.trans hx129_0)
                                 injection hv129_0 with hva_ hvn_ hvc_
                                 rw [hva_] at ge129_0
                                 rw [hvc_] at ul129_0
                                 have HL129_0 := Aside0.mk (show Kd.V (Kd.int .u8) 5 _ w.heap.size _ _ (rd_L1 t114 (rd t108 x22_6)) from Kd.V_mk ul129_0 ge129_0)
                                 clear hva_ hvn_ hvc_ ge129_0 ul129_0
                                 clear hcc129 hce129
                                 have HR129_0 := Aside0.mk hi129_0
                                 have HC129_0 := Aside0.mk hl129_0
                                 clear hi129_0 hl129_0
                                 replace p129 := eq_true p129
                                 replace q129 := eq_true q129
                                 have p130 : 0 ≤ (x23_7 : Int) := of_decide_eq_true (by first | (with_reducible assumption) | assumption)
                                 have q130 : x23_7 < ((rd_L1 t114 (rd t108 x22_6)).length : Int) := of_decide_eq_true (by first | (with_reducible assumption) | assumption)
                                 obtain ⟨ad130, e130, hx130_0⟩ := Kd.at_int (by repeat (first | (with_reducible exact HR129_0.out) | (with_reducible refine Kd.C_alloc ?_ _) | (with_reducible refine Kd.C_drewN ?_ _) | (with_reducible refine Kd.C_drew ?_) | exact HR129_0.out)) x23_7 p130 q130
                                 cases e130
                                 replace p130 := eq_true p130
                                 replace q130 := eq_true q130
                                 obtain ⟨Ao79, co79, eo79⟩ := Kd.N_slice HO_10.out
                                 subst eo79
                                 have p131 : 0 ≤ (x22_6 : Int) := of_decide_eq_true (by first | (with_reducible assumption) | assumption)
                                 have q131 : x22_6 < (t104.length : Int) := of_decide_eq_true (by first | (with_reducible assumption) | assumption)
                                 obtain ⟨ad131, A131_0, c131_0, e131, hx131_0, hl131_0, hi131_0⟩ := at_L1 (Kd.N_reads' HO_10.out).2.2 x22_6 p131 q131
                                 cases e131
                                 obtain ⟨ce131, hce131, hMe131, hcc131⟩ := Kd.N_get HO_10.out [] x22_6 p131 (by first | exact q131 | exact of_decide_eq_true (by first | (with_reducible assumption) | assumption) | (have e_ := (Kd.N_reads' HO_10.out).1; omega))
                                 obtain ⟨ua131_0, uc131_0, rfl, ul131_0, ge131_0⟩ := Kd.FK_slice_open hMe131
                                 have hv131_0 := hcc131 0 _ rfl
                                 rw [Nat.add_zero, show ((Kd.slice 5 (Kd.int .u8))).sz = 1 from rfl, Nat.mul_one] at hv131_0
                                 replace hv131_0 := Option.some.inj (hv131_0.symm.trans hx131_0)
                                 injection hv131_0 with hva_ hvn_ hvc_
                                 rw [hva_] at ge131_0
                                 rw [hvc_] at ul131_0
                                 have HL131_0 := Aside0.mk (show Kd.V (Kd.int .u8) 5 _ w.heap.size _ _ (rd_L1 t104 x22_6) from Kd.V_mk ul131_0 ge131_0)
                                 clear hva_ hvn_ hvc_ ge131_0 ul131_0
                                 clear hcc131 hce131
                                 have HR131_0 := Aside0.mk hi131_0
                                 have HC131_0 := Aside0.mk hl131_0
                                 clear hi131_0 hl131_0
                                 replace p131 := eq_true p131
                                 replace q131 := eq_true q131
                                 have p132 : 0 ≤ (x23_7 : Int) := of_decide_eq_true (by first | (with_reducible assumption) | assumption)
                                 have q132 : x23_7 < ((rd_L1 t104 x22_6).length : Int) := of_decide_eq_true (by first | (with_reducible assumption) | assumption)
                                 obtain ⟨ad132, e132, hx132_0⟩ := Kd.at_int (by repeat (first | (with_reducible exact HR131_0.out) | (with_reducible refine Kd.C_alloc ?_ _) | (with_reducible refine Kd.C_drewN ?_ _) | (with_reducible refine Kd.C_drew ?_) | exact HR131_0.out)) x23_7 p132 q132
                                 cases e132
                                 replace p132 := eq_true p132
                                 replace q132 := eq_true q132
                                 go_wp2
                                 repeat (go_quiet (fail); try go_wp2)
                                 go_ret
                                 exact ⟨by first | rfl | (simp [errW_none, errW_some] <;> rfl) | (simp [*, errW_none, errW_some] <;> rfl), by repeat (first | (with_reducible first | exact HB.out | apply below_alloc | apply pw_below_drewN | apply below_drew1) | exact HB.out)⟩
                                ·rw [if_neg c77] at H
                                 have c77b0 : (((rd (rd_L1 t104 x22_6) x23_7) == 1) != (x22_6 == x23_7)) = false := by simpa using c77
                                 have c77z0 : ((rd (rd_L1 t104 x22_6) x23_7) == 1) = true := by (have h := c77b0; rw [c74b0] at h; cases hz : ((rd (rd_L1 t104 x22_6) x23_7) == 1) <;> rw [hz] at h <;> first | rfl | exact absurd h (by decide))
                                 have c77z1 : ((rd (rd_L1 t104 x22_6) x23_7) != 1) = false := by (show (!((rd (rd_L1 t104 x22_6) x23_7) == 1)) = false; rw [c77z0]; rfl)
                                 (try (have c77b1 : decide (((rd (rd_L1 t104 x22_6) x23_7) == 1) = (x22_6 == x23_7)) = true := by simpa using c77))
                                 (try (have c77b2 : (((rd (rd_L1 t104 x22_6) x23_7) == 1) == (x22_6 == x23_7)) = true := by simpa using c77))
                                 clear c77
                                 have H' := Aside0.mk H
                                 clear H
                                 have p128 : 0 ≤ (x22_6 : Int) := of_decide_eq_true (by first | (with_reducible assumption) | assumption)
                                 have q128 : x22_6 < (t108.length : Int) := of_decide_eq_true (by first | (with_reducible assumption) | assumption)
                                 obtain ⟨ad128, e128, hx128_0⟩ := Kd.at_int (Kd.R_reads' HO_12.out).2.2 x22_6 p128 q128
                                 cases e128
                                 replace p128 := eq_true p128
                                 replace q128 := eq_true q128
                                 obtain ⟨Ao80, co80, eo80⟩ := Kd.N_slice HO_15.out
                                 subst eo80
                                 have p129 : 0 ≤ ((rd t108 x22_6) : Int) := of_decide_eq_true (by first | (with_reducible assumption) | assumption)
                                 have q129 : (rd t108 x22_6) < (t114.length : Int) := of_decide_eq_true (by first | (with_reducible assumption) | assumption)
                                 obtain ⟨ad129, A129_0, c129_0, e129, hx129_0, hl129_0, hi129_0⟩ := at_L1 (Kd.N_reads' HO_15.out).2.2 (rd t108 x22_6) p129 q129
                                 cases e129
                                 obtain ⟨ce129, hce129, hMe129, hcc129⟩ := Kd.N_get HO_15.out [] (rd t108 x22_6) p129 (by first | exact q129 | exact of_decide_eq_true (by first | (with_reducible assumption) | assumption) | (have e_ := (Kd.N_reads' HO_15.out).1; omega))
                                 obtain ⟨ua129_0, uc129_0, rfl, ul129_0, ge129_0⟩ := Kd.FK_slice_open hMe129
                                 have hv129_0 := hcc129 0 _ rfl
                                 rw [Nat.add_zero, show ((Kd.slice 5 (Kd.int .u8))).sz = 1 from rfl, Nat.mul_one] at hv129_0
                                 replace hv129_0 := Option.some.inj (hv129_0.symm.trans hx129_0)
                                 injection hv129_0 with hva_ hvn_ hvc_
                                 rw [hva_] at ge129_0
                                 rw [hvc_] at ul129_0
                                 have HL129_0 := Aside0.mk (show Kd.V (Kd.int .u8) 5 _ w.heap.size _ _ (rd_L1 t114 (rd t108 x22_6)) from Kd.V_mk ul129_0 ge129_0)
                                 clear hva_ hvn_ hvc_ ge129_0 ul129_0
                                 clear hcc129 hce129
                                 have HR129_0 := Aside0.mk hi129_0
                                 have HC129_0 := Aside0.mk hl129_0
                                 clear hi129_0 hl129_0
                                 replace p129 := eq_true p129
                                 replace q129 := eq_true q129
                                 have p130 : 0 ≤ (x23_7 : Int) := of_decide_eq_true (by first | (with_reducible assumption) | assumption)
                                 have q130 : x23_7 < ((rd_L1 t114 (rd t108 x22_6)).length : Int) := of_decide_eq_true (by first | (with_reducible assumption) | assumption)
                                 obtain ⟨ad130, e130, hx130_0⟩ := Kd.at_int (by repeat (first | (with_reducible exact HR129_0.out) | (with_reducible refine Kd.C_alloc ?_ _) | (with_reducible refine Kd.C_drewN ?_ _) | (with_reducible refine Kd.C_drew ?_) | exact HR129_0.out)) x23_7 p130 q130
                                 cases e130
                                 replace p130 := eq_true p130
                                 replace q130 := eq_true q130
                                 obtain ⟨Ao81, co81, eo81⟩ := Kd.N_slice HO_10.out
                                 subst eo81
                                 have p131 : 0 ≤ (x22_6 : Int) := of_decide_eq_true (by first | (with_reducible assumption) | assumption)
                                 have q131 : x22_6 < (t104.length : Int) := of_decide_eq_true (by first | (with_reducible assumption) | assumption)
                                 obtain ⟨ad131, A131_0, c131_0, e131, hx131_0, hl131_0, hi131_0⟩ := at_L1 (Kd.N_reads' HO_10.out).2.2 x22_6 p131 q131
                                 cases e131
                                 obtain ⟨ce131, hce131, hMe131, hcc131⟩ := Kd.N_get HO_10.out [] x22_6 p131 (by first | exact q131 | exact of_decide_eq_true (by first | (with_reducible assumption) | assumption) | (have e_ := (Kd.N_reads' HO_10.out).1; omega))
                                 obtain ⟨ua131_0, uc131_0, rfl, ul131_0, ge131_0⟩ := Kd.FK_slice_open hMe131
                                 have hv131_0 := hcc131 0 _ rfl
                                 rw [Nat.add_zero, show ((Kd.slice 5 (Kd.int .u8))).sz = 1 from rfl, Nat.mul_one] at hv131_0
                                 replace hv131_0 := Option.some.inj (hv131_0.symm.trans hx131_0)
                                 injection hv131_0 with hva_ hvn_ hvc_
                                 rw [hva_] at ge131_0
                                 rw [hvc_] at ul131_0
                                 have HL131_0 := Aside0.mk (show Kd.V (Kd.int .u8) 5 _ w.heap.size _ _ (rd_L1 t104 x22_6) from Kd.V_mk ul131_0 ge131_0)
                                 clear hva_ hvn_ hvc_ ge131_0 ul131_0
                                 clear hcc131 hce131
                                 have HR131_0 := Aside0.mk hi131_0
                                 have HC131_0 := Aside0.mk hl131_0
                                 clear hi131_0 hl131_0
                                 replace p131 := eq_true p131
                                 replace q131 := eq_true q131
                                 have p132 : 0 ≤ (x23_7 : Int) := of_decide_eq_true (by first | (with_reducible assumption) | assumption)
                                 have q132 : x23_7 < ((rd_L1 t104 x22_6).length : Int) := of_decide_eq_true (by first | (with_reducible assumption) | assumption)
                                 obtain ⟨ad132, e132, hx132_0⟩ := Kd.at_int (by repeat (first | (with_reducible exact HR131_0.out) | (with_reducible refine Kd.C_alloc ?_ _) | (with_reducible refine Kd.C_drewN ?_ _) | (with_reducible refine Kd.C_drew ?_) | exact HR131_0.out)) x23_7 p132 q132
                                 cases e132
                                 replace p132 := eq_true p132
                                 replace q132 := eq_true q132
                                 go_wp2
                                 repeat (go_quiet (fail); try go_wp2)
                                 go_roundg k7
                                 case measure => have := HJ8.out; have := HK2.out; have := HJ19.out; have := HK4.out; have := HK5.out; have := HK6.out; have := HK7.out; omega
                                 case rel => exact ⟨(wrap64 (x23_7 + 1)), (by first | rfl | (simp; done) | (simp [*]; done)), H', ⟨by have := HJ8.out; have := HK2.out; have := HJ19.out; have := HK4.out; have := HK5.out; have := HK6.out; have := HK7.out; omega⟩, ⟨by (with_reducible repeat (first | apply Kd.N_alloc | apply Kd.N_drewN | apply Kd.N_drew)); exact HO_10.out⟩, ⟨by (with_reducible repeat (first | apply Kd.R_alloc | apply Kd.R_drewN | apply Kd.R_drew)); exact HO_12.out⟩, ⟨by (with_reducible repeat (first | apply Kd.N_alloc | apply Kd.N_drewN | apply Kd.N_drew)); exact HO_15.out⟩, ⟨by repeat (first | (with_reducible first | exact HB.out | apply below_alloc | apply pw_below_drewN | apply below_drew1) | exact HB.out)⟩⟩
                               ·rw [if_neg c76] at H
                                exact absurd H (by simp)
                              ·rw [if_neg c75] at H
                               exact absurd H (by simp)
                             ·rw [if_neg c74] at H
                              have c74b0 : (x22_6 == x23_7) = false := beq_eq_false_iff_ne.mpr c74
                              have c72z0 : ((rd (rd_L1 t114 (rd t108 x22_6)) x23_7) == 1) = false := by (have h := c72b0; rw [c74b0] at h; cases hz : ((rd (rd_L1 t114 (rd t108 x22_6)) x23_7) == 1) <;> rw [hz] at h <;> first | rfl | exact absurd h (by decide))
                              have c72z1 : ((rd (rd_L1 t114 (rd t108 x22_6)) x23_7) != 1) = true := by (show (!((rd (rd_L1 t114 (rd t108 x22_6)) x23_7) == 1)) = true; rw [c72z0]; rfl)
                              have c74b1 : (x22_6 != x23_7) = true := bne_iff_ne.mpr c74
                              by_cases c82 : (rd (rd_L1 t114 (rd t108 x22_6)) x23_7) = 0
                              ·rw [if_pos c82] at H
                               have c82b0 : ((rd (rd_L1 t114 (rd t108 x22_6)) x23_7) == 0) = true := beq_iff_eq.mpr c82
                               have c82b1 : ((rd (rd_L1 t114 (rd t108 x22_6)) x23_7) != 0) = false := bne_eq_false_iff_eq.mpr c82
                               clear c82
                               by_cases c83 : x22_6 < (t104.length : Int)
                               ·rw [if_pos c83] at H
                                have c83b0 : decide (x22_6 < (t104.length : Int)) = true := decide_eq_true c83
                                clear c83
                                by_cases c84 : x23_7 < ((rd_L1 t104 x22_6).length : Int)
                                ·rw [if_pos c84] at H
                                 have c84b0 : decide (x23_7 < ((rd_L1 t104 x22_6).length : Int)) = true := decide_eq_true c84
                                 clear c84
                                 by_cases c85 : (((rd (rd_L1 t104 x22_6) x23_7) == 1) != (x22_6 == x23_7)) = true
                                 ·rw [if_pos c85] at H
                                  have c85b0 : (((rd (rd_L1 t104 x22_6) x23_7) == 1) != (x22_6 == x23_7)) = true := c85
                                  have c85z0 : ((rd (rd_L1 t104 x22_6) x23_7) == 1) = true := by (have h := c85b0; rw [c74b0] at h; cases hz : ((rd (rd_L1 t104 x22_6) x23_7) == 1) <;> rw [hz] at h <;> first | rfl | exact absurd h (by decide))
                                  have c85z1 : ((rd (rd_L1 t104 x22_6) x23_7) != 1) = false := by (show (!((rd (rd_L1 t104 x22_6) x23_7) == 1)) = false; rw [c85z0]; rfl)
                                  (try (have c85b1 : decide (((rd (rd_L1 t104 x22_6) x23_7) == 1) = (x22_6 == x23_7)) = false := by simpa using c85))
                                  (try (have c85b2 : (((rd (rd_L1 t104 x22_6) x23_7) == 1) == (x22_6 == x23_7)) = false := by simpa using c85))
                                  (try (have c85b3 : ¬ (((rd (rd_L1 t104 x22_6) x23_7) == 1) = (x22_6 == x23_7)) := by simpa using c85))
                                  clear c85
                                  obtain rfl := Option.some.inj H
                                  have p128 : 0 ≤ (x22_6 : Int) := of_decide_eq_true (by first | (with_reducible assumption) | assumption)
                                  have q128 : x22_6 < (t108.length : Int) := of_decide_eq_true (by first | (with_reducible assumption) | assumption)
                                  obtain ⟨ad128, e128, hx128_0⟩ := Kd.at_int (Kd.R_reads' HO_12.out).2.2 x22_6 p128 q128
                                  cases e128
                                  replace p128 := eq_true p128
                                  replace q128 := eq_true q128
                                  obtain ⟨Ao86, co86, eo86⟩ := Kd.N_slice HO_15.out
                                  subst eo86
                                  have p129 : 0 ≤ ((rd t108 x22_6) : Int) := of_decide_eq_true (by first | (with_reducible assumption) | assumption)
                                  have q129 : (rd t108 x22_6) < (t114.length : Int) := of_decide_eq_true (by first | (with_reducible assumption) | assumption)
                                  obtain ⟨ad129, A129_0, c129_0, e129, hx129_0, hl129_0, hi129_0⟩ := at_L1 (Kd.N_reads' HO_15.out).2.2 (rd t108 x22_6) p129 q129
                                  cases e129
                                  obtain ⟨ce129, hce129, hMe129, hcc129⟩ := Kd.N_get HO_15.out [] (rd t108 x22_6) p129 (by first | exact q129 | exact of_decide_eq_true (by first | (with_reducible assumption) | assumption) | (have e_ := (Kd.N_reads' HO_15.out).1; omega))
                                  obtain ⟨ua129_0, uc129_0, rfl, ul129_0, ge129_0⟩ := Kd.FK_slice_open hMe129
                                  have hv129_0 := hcc129 0 _ rfl
                                  rw [Nat.add_zero, show ((Kd.slice 5 (Kd.int .u8))).sz = 1 from rfl, Nat.mul_one] at hv129_0
                                  replace hv129_0 := Option.some.inj (hv129_0.symm.trans hx129_0)
                                  injection hv129_0 with hva_ hvn_ hvc_
                                  rw [hva_] at ge129_0
                                  rw [hvc_] at ul129_0
                                  have HL129_0 := Aside0.mk (show Kd.V (Kd.int .u8) 5 _ w.heap.size _ _ (rd_L1 t114 (rd t108 x22_6)) from Kd.V_mk ul129_0 ge129_0)
                                  clear hva_ hvn_ hvc_ ge129_0 ul129_0
                                  clear hcc129 hce129
                                  have HR129_0 := Aside0.mk hi129_0
                                  have HC129_0 := Aside0.mk hl129_0
                                  clear hi129_0 hl129_0
                                  replace p129 := eq_true p129
                                  replace q129 := eq_true q129
                                  have p130 : 0 ≤ (x23_7 : Int) := of_decide_eq_true (by first | (with_reducible assumption) | assumption)
                                  have q130 : x23_7 < ((rd_L1 t114 (rd t108 x22_6)).length : Int) := of_decide_eq_true (by first | (with_reducible assumption) | assumption)
                                  obtain ⟨ad130, e130, hx130_0⟩ := Kd.at_int (by repeat (first | (with_reducible exact HR129_0.out) | (with_reducible refine Kd.C_alloc ?_ _) | (with_reducible refine Kd.C_drewN ?_ _) | (with_reducible refine Kd.C_drew ?_) | exact HR129_0.out)) x23_7 p130 q130
                                  cases e130
                                  replace p130 := eq_true p130
                                  replace q130 := eq_true q130
                                  have p133 : 0 ≤ (x22_6 : Int) := of_decide_eq_true (by first | (with_reducible assumption) | assumption)
                                  have q133 : x22_6 < (t108.length : Int) := of_decide_eq_true (by first | (with_reducible assumption) | assumption)
                                  obtain ⟨ad133, e133, hx133_0⟩ := Kd.at_int (Kd.R_reads' HO_12.out).2.2 x22_6 p133 q133
                                  obtain rfl : ad128 = ad133 := (by injection e133)
                                  replace p133 := eq_true p133
                                  replace q133 := eq_true q133
                                  have p134 : 0 ≤ ((rd t108 x22_6) : Int) := of_decide_eq_true (by first | (with_reducible assumption) | assumption)
                                  have q134 : (rd t108 x22_6) < (t114.length : Int) := of_decide_eq_true (by first | (with_reducible assumption) | assumption)
                                  obtain ⟨ad134, A134_0, c134_0, e134, hx134_0, hl134_0, hi134_0⟩ := at_L1 (Kd.N_reads' HO_15.out).2.2 (rd t108 x22_6) p134 q134
                                  obtain rfl : ad129 = ad134 := (by injection e134)
                                  obtain ⟨ce134, hce134, hMe134, hcc134⟩ := Kd.N_get HO_15.out [] (rd t108 x22_6) p134 (by first | exact q134 | exact of_decide_eq_true (by first | (with_reducible assumption) | assumption) | (have e_ := (Kd.N_reads' HO_15.out).1; omega))
                                  obtain ⟨ua134_0, uc134_0, rfl, ul134_0, ge134_0⟩ := Kd.FK_slice_open hMe134
                                  have hv134_0 := hcc134 0 _ rfl
                                  rw [Nat.add_zero, show ((Kd.slice 5 (Kd.int .u8))).sz = 1 from rfl, Nat.mul_one] at hv134_0
                                  replace hv134_0 := Option.some.inj (hv134_0.symm.trans hx134_0)
                                  injection hv134_0 with hva_ hvn_ hvc_
                                  rw [hva_] at ge134_0
                                  rw [hvc_] at ul134_0
                                  have HL134_0 := Aside0.mk (show Kd.V (Kd.int .u8) 5 _ w.heap.size _ _ (rd_L1 t114 (rd t108 x22_6)) from Kd.V_mk ul134_0 ge134_0)
                                  clear hva_ hvn_ hvc_ ge134_0 ul134_0
                                  clear hcc134 hce134
                                  have HR134_0 := Aside0.mk hi134_0
                                  have HC134_0 := Aside0.mk hl134_0
                                  clear hi134_0 hl134_0
                                  replace p134 := eq_true p134
                                  replace q134 := eq_true q134
                                  have ea_ := Option.some.inj (hx129_0.symm.trans hx134_0)
                                  injection ea_ with ea_ en_ ec_
                                  subst ea_
                                  subst ec_
                                  clear en_
                                  have p135 : 0 ≤ (x23_7 : Int) := of_decide_eq_true (by first | (with_reducible assumption) | assumption)
                                  have q135 : x23_7 < ((rd_L1 t114 (rd t108 x22_6)).length : Int) := of_decide_eq_true (by first | (with_reducible assumption) | assumption)
                                  obtain ⟨ad135, e135, hx135_0⟩ := Kd.at_int (by repeat (first | (with_reducible exact HR134_0.out) | (with_reducible refine Kd.C_alloc ?_ _) | (with_reducible refine Kd.C_drewN ?_ _) | (with_reducible refine Kd.C_drew ?_) | exact HR134_0.out)) x23_7 p135 q135
                                  cases e135
                                  replace p135 := eq_true p135
                                  replace q135 := eq_true q135
                                  obtain ⟨Ao87, co87, eo87⟩ := Kd.N_slice HO_10.out
                                  subst eo87
                                  have p136 : 0 ≤ (x22_6 : Int) := of_decide_eq_true (by first | (with_reducible assumption) | assumption)
                                  have q136 : x22_6 < (t104.length : Int) := of_decide_eq_true (by first | (with_reducible assumption) | assumption)
                                  obtain ⟨ad136, A136_0, c136_0, e136, hx136_0, hl136_0, hi136_0⟩ := at_L1 (Kd.N_reads' HO_10.out).2.2 x22_6 p136 q136
                                  cases e136
                                  obtain ⟨ce136, hce136, hMe136, hcc136⟩ := Kd.N_get HO_10.out [] x22_6 p136 (by first | exact q136 | exact of_decide_eq_true (by first | (with_reducible assumption) | assumption) | (have e_ := (Kd.N_reads' HO_10.out).1; omega))
                                  obtain ⟨ua136_0, uc136_0, rfl, ul136_0, ge136_0⟩ := Kd.FK_slice_open hMe136
                                  have hv136_0 := hcc136 0 _ rfl
                                  rw [Nat.add_zero, show ((Kd.slice 5 (Kd.int .u8))).sz = 1 from rfl, Nat.mul_one] at hv136_0
                                  replace hv136_0 := Option.some.inj (hv136_0.symm.trans hx136_0)
                                  injection hv136_0 with hva_ hvn_ hvc_
                                  rw [hva_] at ge136_0
                                  rw [hvc_] at ul136_0
                                  have HL136_0 := Aside0.mk (show Kd.V (Kd.int .u8) 5 _ w.heap.size _ _ (rd_L1 t104 x22_6) from Kd.V_mk ul136_0 ge136_0)
                                  clear hva_ hvn_ hvc_ ge136_0 ul136_0
                                  clear hcc136 hce136
                                  have HR136_0 := Aside0.mk hi136_0
                                  have HC136_0 := Aside0.mk hl136_0
                                  clear hi136_0 hl136_0
                                  replace p136 := eq_true p136
                                  replace q136 := eq_true q136
                                  have p137 : 0 ≤ (x23_7 : Int) := of_decide_eq_true (by first | (with_reducible assumption) | assumption)
                                  have q137 : x23_7 < ((rd_L1 t104 x22_6).length : Int) := of_decide_eq_true (by first | (with_reducible assumption) | assumption)
                                  obtain ⟨ad137, e137, hx137_0⟩ := Kd.at_int (by repeat (first | (with_reducible exact HR136_0.out) | (with_reducible refine Kd.C_alloc ?_ _) | (with_reducible refine Kd.C_drewN ?_ _) | (with_reducible refine Kd.C_drew ?_) | exact HR136_0.out)) x23_7 p137 q137
                                  cases e137
                                  replace p137 := eq_true p137
                                  replace q137 := eq_true q137
                                  go_wp2
                                  repeat (go_quiet (fail); try go_wp2)
                                  go_ret
                                  exact ⟨by first | rfl | (simp [errW_none, errW_some] <;> rfl) | (simp [*, errW_none, errW_some] <;> rfl), by repeat (first | (with_reducible first | exact HB.out | apply below_alloc | apply pw_below_drewN | apply below_drew1) | exact HB.out)⟩
                                 ·rw [if_neg c85] at H
                                  have c85b0 : (((rd (rd_L1 t104 x22_6) x23_7) == 1) != (x22_6 == x23_7)) = false := by simpa using c85
                                  have c85z0 : ((rd (rd_L1 t104 x22_6) x23_7) == 1) = false := by (have h := c85b0; rw [c74b0] at h; cases hz : ((rd (rd_L1 t104 x22_6) x23_7) == 1) <;> rw [hz] at h <;> first | rfl | exact absurd h (by decide))
                                  have c85z1 : ((rd (rd_L1 t104 x22_6) x23_7) != 1) = true := by (show (!((rd (rd_L1 t104 x22_6) x23_7) == 1)) = true; rw [c85z0]; rfl)
                                  (try (have c85b1 : decide (((rd (rd_L1 t104 x22_6) x23_7) == 1) = (x22_6 == x23_7)) = true := by simpa using c85))
                                  (try (have c85b2 : (((rd (rd_L1 t104 x22_6) x23_7) == 1) == (x22_6 == x23_7)) = true := by simpa using c85))
                                  clear c85
                                  have H' := Aside0.mk H
                                  clear H
                                  have p128 : 0 ≤ (x22_6 : Int) := of_decide_eq_true (by first | (with_reducible assumption) | assumption)
                                  have q128 : x22_6 < (t108.length : Int) := of_decide_eq_true (by first | (with_reducible assumption) | assumption)
                                  obtain ⟨ad128, e128, hx128_0⟩ := Kd.at_int (Kd.R_reads' HO_12.out).2.2 x22_6 p128 q128
                                  cases e128
                                  replace p128 := eq_true p128
                                  replace q128 := eq_true q128
                                  obtain ⟨Ao88, co88, eo88⟩ := Kd.N_slice HO_15.out
                                  subst eo88
                                  have p129 : 0 ≤ ((rd t108 x22_6) : Int) := of_decide_eq_true (by first | (with_reducible assumption) | assumption)
                                  have q129 : (rd t108 x22_6) < (t114.length : Int) := of_decide_eq_true (by first | (with_reducible assumption) | assumption)
                                  obtain ⟨ad129, A129_0, c129_0, e129, hx129_0, hl129_0, hi129_0⟩ := at_L1 (Kd.N_reads' HO_15.out).2.2 (rd t108 x22_6) p129 q129
                                  cases e129
                                  obtain ⟨ce129, hce129, hMe129, hcc129⟩ := Kd.N_get HO_15.out [] (rd t108 x22_6) p129 (by first | exact q129 | exact of_decide_eq_true (by first | (with_reducible assumption) | assumption) | (have e_ := (Kd.N_reads' HO_15.out).1; omega))
                                  obtain ⟨ua129_0, uc129_0, rfl, ul129_0, ge129_0⟩ := Kd.FK_slice_open hMe129
                                  have hv129_0 := hcc129 0 _ rfl
                                  rw [Nat.add_zero, show ((Kd.slice 5 (Kd.int .u8))).sz = 1 from rfl, Nat.mul_one] at hv129_0
                                  replace hv129_0 := Option.some.inj (hv129_0.symm.trans hx129_0)
                                  injection hv129_0 with hva_ hvn_ hvc_
                                  rw [hva_] at ge129_0
                                  rw [hvc_] at ul129_0
                                  have HL129_0 := Aside0.mk (show Kd.V (Kd.int .u8) 5 _ w.heap.size _ _ (rd_L1 t114 (rd t108 x22_6)) from Kd.V_mk ul129_0 ge129_0)
                                  clear hva_ hvn_ hvc_ ge129_0 ul129_0
                                  clear hcc129 hce129
                                  have HR129_0 := Aside0.mk hi129_0
                                  have HC129_0 := Aside0.mk hl129_0
                                  clear hi129_0 hl129_0
                                  replace p129 := eq_true p129
                                  replace q129 := eq_true q129
                                  have p130 : 0 ≤ (x23_7 : Int) := of_decide_eq_true (by first | (with_reducible assumption) | assumption)
                                  have q130 : x23_7 < ((rd_L1 t114 (rd t108 x22_6)).length : Int) := of_decide_eq_true (by first | (with_reducible assumption) | assumption)
                                  obtain ⟨ad130, e130, hx130_0⟩ := Kd.at_int (by repeat (first | (with_reducible exact HR129_0.out) | (with_reducible refine Kd.C_alloc ?_ _) | (with_reducible refine Kd.C_drewN ?_ _) | (with_reducible refine Kd.C_drew ?_) | exact HR129_0.out)) x23_7 p130 q130
                                  cases e130
                                  replace p130 := eq_true p130
                                  replace q130 := eq_true q130
                                  have p133 : 0 ≤ (x22_6 : Int) := of_decide_eq_true (by first | (with_reducible assumption) | assumption)
                                  have q133 : x22_6 < (t108.length : Int) := of_decide_eq_true (by first | (with_reducible assumption) | assumption)
                                  obtain ⟨ad133, e133, hx133_0⟩ := Kd.at_int (Kd.R_reads' HO_12.out).2.2 x22_6 p133 q133
                                  obtain rfl : ad128 = ad133 := (by injection e133)
                                  replace p133 := eq_true p133
                                  replace q133 := eq_true q133
                                  have p134 : 0 ≤ ((rd t108 x22_6) : Int) := of_decide_eq_true (by first | (with_reducible assumption) | assumption)
                                  have q134 : (rd t108 x22_6) < (t114.length : Int) := of_decide_eq_true (by first | (with_reducible assumption) | assumption)
                                  obtain ⟨ad134, A134_0, c134_0, e134, hx134_0, hl134_0, hi134_0⟩ := at_L1 (Kd.N_reads' HO_15.out).2.2 (rd t108 x22_6) p134 q134
                                  obtain rfl : ad129 = ad134 := (by injection e134)
                                  obtain ⟨ce134, hce134, hMe134, hcc134⟩ := Kd.N_get HO_15.out [] (rd t108 x22_6) p134 (by first | exact q134 | exact of_decide_eq_true (by first | (with_reducible assumption) | assumption) | (have e_ := (Kd.N_reads' HO_15.out).1; omega))
                                  obtain ⟨ua134_0, uc134_0, rfl, ul134_0, ge134_0⟩ := Kd.FK_slice_open hMe134
                                  have hv134_0 := hcc134 0 _ rfl
                                  rw [Nat.add_zero, show ((Kd.slice 5 (Kd.int .u8))).sz = 1 from rfl, Nat.mul_one] at hv134_0
                                  replace hv134_0 := Option.some.inj (hv134_0.symm.trans hx134_0)
                                  injection hv134_0 with hva_ hvn_ hvc_
                                  rw [hva_] at ge134_0
                                  rw [hvc_] at ul134_0
                                  have HL134_0 := Aside0.mk (show Kd.V (Kd.int .u8) 5 _ w.heap.size _ _ (rd_L1 t114 (rd t108 x22_6)) from Kd.V_mk ul134_0 ge134_0)
                                  clear hva_ hvn_ hvc_ ge134_0 ul134_0
                                  clear hcc134 hce134
                                  have HR134_0 := Aside0.mk hi134_0
                                  have HC134_0 := Aside0.mk hl134_0
                                  clear hi134_0 hl134_0
                                  replace p134 := eq_true p134
                                  replace q134 := eq_true q134
                                  have ea_ := Option.some.inj (hx129_0.symm.trans hx134_0)
                                  injection ea_ with ea_ en_ ec_
                                  subst ea_
                                  subst ec_
                                  clear en_
                                  have p135 : 0 ≤ (x23_7 : Int) := of_decide_eq_true (by first | (with_reducible assumption) | assumption)
                                  have q135 : x23_7 < ((rd_L1 t114 (rd t108 x22_6)).length : Int) := of_decide_eq_true (by first | (with_reducible assumption) | assumption)
                                  obtain ⟨ad135, e135, hx135_0⟩ := Kd.at_int (by repeat (first | (with_reducible exact HR134_0.out) | (with_reducible refine Kd.C_alloc ?_ _) | (with_reducible refine Kd.C_drewN ?_ _) | (with_reducible refine Kd.C_drew ?_) | exact HR134_0.out)) x23_7 p135 q135
                                  cases e135
                                  replace p135 := eq_true p135
                                  replace q135 := eq_true q135
                                  obtain ⟨Ao89, co89, eo89⟩ := Kd.N_slice HO_10.out
                                  subst eo89
                                  have p136 : 0 ≤ (x22_6 : Int) := of_decide_eq_true (by first | (with_reducible assumption) | assumption)
                                  have q136 : x22_6 < (t104.length : Int) := of_decide_eq_true (by first | (with_reducible assumption) | assumption)
                                  obtain ⟨ad136, A136_0, c136_0, e136, hx136_0, hl136_0, hi136_0⟩ := at_L1 (Kd.N_reads' HO_10.out).2.2 x22_6 p136 q136
                                  cases e136
                                  obtain ⟨ce136, hce136, hMe136, hcc136⟩ := Kd.N_get HO_10.out [] x22_6 p136 (by first | exact q136 | exact of_decide_eq_true (by first | (with_reducible assumption) | assumption) | (have e_ := (Kd.N_reads' HO_10.out).1; omega))
                                  obtain ⟨ua136_0, uc136_0, rfl, ul136_0, ge136_0⟩ := Kd.FK_slice_open hMe136
                                  have hv136_0 := hcc136 0 _ rfl
                                  rw [Nat.add_zero, show ((Kd.slice 5 (Kd.int .u8))).sz = 1 from rfl, Nat.mul_one] at hv136_0
                                  replace hv136_0 := Option.some.inj (hv136_0.symm.trans hx136_0)
                                  injection hv136_0 with hva_ hvn_ hvc_
                                  rw [hva_] at ge136_0
                                  rw [hvc_] at ul136_0
                                  have HL136_0 := Aside0.mk (show Kd.V (Kd.int .u8) 5 _ w.heap.size _ _ (rd_L1 t104 x22_6) from Kd.V_mk ul136_0 ge136_0)
                                  clear hva_ hvn_ hvc_ ge136_0 ul136_0
                                  clear hcc136 hce136
                                  have HR136_0 := Aside0.mk hi136_0
                                  have HC136_0 := Aside0.mk hl136_0
                                  clear hi136_0 hl136_0
                                  replace p136 := eq_true p136
                                  replace q136 := eq_true q136
                                  have p137 : 0 ≤ (x23_7 : Int) := of_decide_eq_true (by first | (with_reducible assumption) | assumption)
                                  have q137 : x23_7 < ((rd_L1 t104 x22_6).length : Int) := of_decide_eq_true (by first | (with_reducible assumption) | assumption)
                                  obtain ⟨ad137, e137, hx137_0⟩ := Kd.at_int (by repeat (first | (with_reducible exact HR136_0.out) | (with_reducible refine Kd.C_alloc ?_ _) | (with_reducible refine Kd.C_drewN ?_ _) | (with_reducible refine Kd.C_drew ?_) | exact HR136_0.out)) x23_7 p137 q137
                                  cases e137
                                  replace p137 := eq_true p137
                                  replace q137 := eq_true q137
                                  go_wp2
                                  repeat (go_quiet (fail); try go_wp2)
                                  go_roundg k7
                                  case measure => have := HJ8.out; have := HK2.out; have := HJ19.out; have := HK4.out; have := HK5.out; have := HK6.out; have := HK7.out; omega
                                  case rel => exact ⟨(wrap64 (x23_7 + 1)), (by first | rfl | (simp; done) | (simp [*]; done)), H', ⟨by have := HJ8.out; have := HK2.out; have := HJ19.out; have := HK4.out; have := HK5.out; have := HK6.out; have := HK7.out; omega⟩, ⟨by (with_reducible repeat (first | apply Kd.N_alloc | apply Kd.N_drewN | apply Kd.N_drew)); exact HO_10.out⟩, ⟨by (with_reducible repeat (first | apply Kd.R_alloc | apply Kd.R_drewN | apply Kd.R_drew)); exact HO_12.out⟩, ⟨by (with_reducible repeat (first | apply Kd.N_alloc | apply Kd.N_drewN | apply Kd.N_drew)); exact HO_15.out⟩, ⟨by repeat (first | (with_reducible first | exact HB.out | apply below_alloc | apply pw_below_drewN | apply below_drew1) | exact HB.out)⟩⟩
                                ·rw [if_neg c84] at H
                                 exact absurd H (by simp)
                               ·rw [if_neg c83] at H
                                exact absurd H (by simp)
                              ·rw [if_neg c82] at H
                               have c82b0 : ((rd (rd_L1 t114 (rd t108 x22_6)) x23_7) == 0) = false := beq_eq_false_iff_ne.mpr c82
                               have c82b1 : ((rd (rd_L1 t114 (rd t108 x22_6)) x23_7) != 0) = true := bne_iff_ne.mpr c82
                               obtain rfl := Option.some.inj H
                               have p128 : 0 ≤ (x22_6 : Int) := of_decide_eq_true (by first | (with_reducible assumption) | assumption)
                               have q128 : x22_6 < (t108.length : Int) := of_decide_eq_true (by first | (with_reducible assumption) | assumption)
                               obtain ⟨ad128, e128, hx128_0⟩ := Kd.at_int (Kd.R_reads' HO_12.out).2.2 x22_6 p128 q128
                               cases e128
                               replace p128 := eq_true p128
                               replace q128 := eq_true q128
                               obtain ⟨Ao90, co90, eo90⟩ := Kd.N_slice HO_15.out
                               subst eo90
                               have p129 : 0 ≤ ((rd t108 x22_6) : Int) := of_decide_eq_true (by first | (with_reducible assumption) | assumption)
                               have q129 : (rd t108 x22_6) < (t114.length : Int) := of_decide_eq_true (by first | (with_reducible assumption) | assumption)
                               obtain ⟨ad129, A129_0, c129_0, e129, hx129_0, hl129_0, hi129_0⟩ := at_L1 (Kd.N_reads' HO_15.out).2.2 (rd t108 x22_6) p129 q129
                               cases e129
                               obtain ⟨ce129, hce129, hMe129, hcc129⟩ := Kd.N_get HO_15.out [] (rd t108 x22_6) p129 (by first | exact q129 | exact of_decide_eq_true (by first | (with_reducible assumption) | assumption) | (have e_ := (Kd.N_reads' HO_15.out).1; omega))
                               obtain ⟨ua129_0, uc129_0, rfl, ul129_0, ge129_0⟩ := Kd.FK_slice_open hMe129
                               have hv129_0 := hcc129 0 _ rfl
                               rw [Nat.add_zero, show ((Kd.slice 5 (Kd.int .u8))).sz = 1 from rfl, Nat.mul_one] at hv129_0
                               replace hv129_0 := Option.some.inj (hv129_0.symm.trans hx129_0)
                               injection hv129_0 with hva_ hvn_ hvc_
                               rw [hva_] at ge129_0
                               rw [hvc_] at ul129_0
                               have HL129_0 := Aside0.mk (show Kd.V (Kd.int .u8) 5 _ w.heap.size _ _ (rd_L1 t114 (rd t108 x22_6)) from Kd.V_mk ul129_0 ge129_0)
                               clear hva_ hvn_ hvc_ ge129_0 ul129_0
                               clear hcc129 hce129
                               have HR129_0 := Aside0.mk hi129_0
                               have HC129_0 := Aside0.mk hl129_0
                               clear hi129_0 hl129_0
                               replace p129 := eq_true p129
                               replace q129 := eq_true q129
                               have p130 : 0 ≤ (x23_7 : Int) := of_decide_eq_true (by first | (with_reducible assumption) | assumption)
                               have q130 : x23_7 < ((rd_L1 t114 (rd t108 x22_6)).length : Int) := of_decide_eq_true (by first | (with_reducible assumption) | assumption)
                               obtain ⟨ad130, e130, hx130_0⟩ := Kd.at_int (by repeat (first | (with_reducible exact HR129_0.out) | (with_reducible refine Kd.C_alloc ?_ _) | (with_reducible refine Kd.C_drewN ?_ _) | (with_reducible refine Kd.C_drew ?_) | exact HR129_0.out)) x23_7 p130 q130
                               cases e130
                               replace p130 := eq_true p130
                               replace q130 := eq_true q130
                               have p133 : 0 ≤ (x22_6 : Int) := of_decide_eq_true (by first | (with_reducible assumption) | assumption)
                               have q133 : x22_6 < (t108.length : Int) := of_decide_eq_true (by first | (with_reducible assumption) | assumption)
                               obtain ⟨ad133, e133, hx133_0⟩ := Kd.at_int (Kd.R_reads' HO_12.out).2.2 x22_6 p133 q133
                               obtain rfl : ad128 = ad133 := (by injection e133)
                               replace p133 := eq_true p133
                               replace q133 := eq_true q133
                               have p134 : 0 ≤ ((rd t108 x22_6) : Int) := of_decide_eq_true (by first | (with_reducible assumption) | assumption)
                               have q134 : (rd t108 x22_6) < (t114.length : Int) := of_decide_eq_true (by first | (with_reducible assumption) | assumption)
                               obtain ⟨ad134, A134_0, c134_0, e134, hx134_0, hl134_0, hi134_0⟩ := at_L1 (Kd.N_reads' HO_15.out).2.2 (rd t108 x22_6) p134 q134
                               obtain rfl : ad129 = ad134 := (by injection e134)
                               obtain ⟨ce134, hce134, hMe134, hcc134⟩ := Kd.N_get HO_15.out [] (rd t108 x22_6) p134 (by first | exact q134 | exact of_decide_eq_true (by first | (with_reducible assumption) | assumption) | (have e_ := (Kd.N_reads' HO_15.out).1; omega))
                               obtain ⟨ua134_0, uc134_0, rfl, ul134_0, ge134_0⟩ := Kd.FK_slice_open hMe134
                               have hv134_0 := hcc134 0 _ rfl
                               rw [Nat.add_zero, show ((Kd.slice 5 (Kd.int .u8))).sz = 1 from rfl, Nat.mul_one] at hv134_0
                               replace hv134_0 := Option.some.inj (hv134_0.symm.trans hx134_0)
                               injection hv134_0 with hva_ hvn_ hvc_
                               rw [hva_] at ge134_0
                               rw [hvc_] at ul134_0
                               have HL134_0 := Aside0.mk (show Kd.V (Kd.int .u8) 5 _ w.heap.size _ _ (rd_L1 t114 (rd t108 x22_6)) from Kd.V_mk ul134_0 ge134_0)
                               clear hva_ hvn_ hvc_ ge134_0 ul134_0
                               clear hcc134 hce134
                               have HR134_0 := Aside0.mk hi134_0
                               have HC134_0 := Aside0.mk hl134_0
                               clear hi134_0 hl134_0
                               replace p134 := eq_true p134
                               replace q134 := eq_true q134
                               have ea_ := Option.some.inj (hx129_0.symm.trans hx134_0)
                               injection ea_ with ea_ en_ ec_
                               subst ea_
                               subst ec_
                               clear en_
                               have p135 : 0 ≤ (x23_7 : Int) := of_decide_eq_true (by first | (with_reducible assumption) | assumption)
                               have q135 : x23_7 < ((rd_L1 t114 (rd t108 x22_6)).length : Int) := of_decide_eq_true (by first | (with_reducible assumption) | assumption)
                               obtain ⟨ad135, e135, hx135_0⟩ := Kd.at_int (by repeat (first | (with_reducible exact HR134_0.out) | (with_reducible refine Kd.C_alloc ?_ _) | (with_reducible refine Kd.C_drewN ?_ _) | (with_reducible refine Kd.C_drew ?_) | exact HR134_0.out)) x23_7 p135 q135
                               cases e135
                               replace p135 := eq_true p135
                               replace q135 := eq_true q135
                               go_wp2
                               repeat (go_quiet (fail); try go_wp2)
                               go_ret
                               exact ⟨by first | rfl | (simp [errW_none, errW_some] <;> rfl) | (simp [*, errW_none, errW_some] <;> rfl), by repeat (first | (with_reducible first | exact HB.out | apply below_alloc | apply pw_below_drewN | apply below_drew1) | exact HB.out)⟩
                           ·rw [if_neg c71] at H
                            exact absurd H (by simp)
                          ·rw [if_neg c70] at H
                           exact absurd H (by simp)
                         ·rw [if_neg c69] at H
                          exact absurd H (by simp)
                        ·rw [if_neg c68] at H
                         exact absurd H (by simp)
                       ·rw [if_neg c67] at H
                        exact absurd H (by simp)
                      ·rw [if_neg c66] at H
                       exact absurd H (by simp)
                     ·rw [if_neg c65] at H
                      have c65b0 : decide (x23_7 < t102) = false := decide_eq_false c65
                      clear c65
                      have H' := Aside0.mk H
                      clear H
                      go_wp2
                      repeat (go_quiet (fail); try go_wp2)
                      go_roundg k7
                      case measure => have := HJ8.out; have := HK2.out; have := HJ19.out; have := HK4.out; have := HK5.out; have := HK6.out; have := HK7.out; omega
                      case rel => exact ⟨(wrap64 (x22_6 + 1)), (by first | rfl | (simp; done) | (simp [*]; done)), H', ⟨by have := HJ8.out; have := HK2.out; have := HJ19.out; have := HK4.out; have := HK5.out; have := HK6.out; have := HK7.out; omega⟩, ⟨by (with_reducible repeat (first | apply Kd.N_alloc | apply Kd.N_drewN | apply Kd.N_drew)); exact HO_10.out⟩, ⟨by (with_reducible repeat (first | apply Kd.R_alloc | apply Kd.R_drewN | apply Kd.R_drew)); exact HO_12.out⟩, ⟨by (with_reducible repeat (first | apply Kd.N_alloc | apply Kd.N_drewN | apply Kd.N_drew)); exact HO_15.out⟩, ⟨by repeat (first | (with_reducible first | exact HB.out | apply below_alloc | apply pw_below_drewN | apply below_drew1) | exact HB.out)⟩⟩
                  ·rw [if_neg c64] at H
                   have c64b0 : decide (x22_6 < t102) = false := decide_eq_false c64
                   clear c64
                   obtain rfl := Option.some.inj H
                   go_wp2
                   repeat (go_quiet (fail); try go_wp2)
                   go_ret
                   exact ⟨by first | rfl | (simp [errW_none, errW_some] <;> rfl) | (simp [*, errW_none, errW_some] <;> rfl), by repeat (first | (with_reducible first | exact HB.out | apply below_alloc | apply pw_below_drewN | apply below_drew1) | exact HB.out)⟩
 ·replace c6 := Bool.eq_false_iff.mpr c6
  subst c6
  have H1 : (some false) = some r := by rw [if_neg (show ¬ (false = true) by decide)] at H; exact H
  clear H
  have H := H1
  clear H1
  obtain rfl := Option.some.inj H
  go_enter Try.func5, Try.ntmps5
  go_wp2_with (first | (go_at_call 15; (with_reducible refine (culletlaw11_awake.calls k  false _ A5.out).mono ?_); rintro e w91 ⟨rfl, hb⟩; have n0_ := Aside0.mk (below_step (by repeat (first | (with_reducible first | exact HB.out | apply below_alloc | apply pw_below_drewN | apply below_drew1) | exact HB.out)) hb); clear HB; have HB := n0_; clear n0_; (try clear hb); (try clear hb2); (try clear hk); (try clear hi)))
  repeat (go_quiet (first | (go_at_call 15; (with_reducible refine (culletlaw11_awake.calls k  false _ A5.out).mono ?_); rintro e w91 ⟨rfl, hb⟩; have n0_ := Aside0.mk (below_step (by repeat (first | (with_reducible first | exact HB.out | apply below_alloc | apply pw_below_drewN | apply below_drew1) | exact HB.out)) hb); clear HB; have HB := n0_; clear n0_; (try clear hb); (try clear hb2); (try clear hk); (try clear hi))); try go_wp2_with (first | (go_at_call 15; (with_reducible refine (culletlaw11_awake.calls k  false _ A5.out).mono ?_); rintro e w91 ⟨rfl, hb⟩; have n0_ := Aside0.mk (below_step (by repeat (first | (with_reducible first | exact HB.out | apply below_alloc | apply pw_below_drewN | apply below_drew1) | exact HB.out)) hb); clear HB; have HB := n0_; clear n0_; (try clear hb); (try clear hb2); (try clear hk); (try clear hi))))
  go_ret
  exact ⟨by first | rfl | (simp [errW_none, errW_some] <;> rfl) | (simp [*, errW_none, errW_some] <;> rfl), by repeat (first | (with_reducible first | exact HB.out | apply below_alloc | apply pw_below_drewN | apply below_drew1) | exact HB.out)⟩

/-- THE ONE PURE STATEMENT of culletlaw11_GenerAny: yours. -/
def culletlaw11_GenerAny.Pure : Prop := ∀ (a0 : Int) (a1 : Int) (l2 : List Int) (a3 : Bool), (Lit.int .i64 a0).wf = true → (Lit.int .i64 a1).wf = true → l2.length ≤ maxLen → l2.length * 8 ≤ 140737488351232 → (∀ x ∈ l2, (Lit.int .i64 x).wf = true) → ∃ k, culletlaw11_GenerAny.f k a0 a1 l2 a3 = some true
theorem culletlaw11_GenerAny.walk (P : culletlaw11_GenerAny.Pure) (a0 : Int) (a1 : Int) (a2 : Option Addr) (len2 cap2 : Nat) (z2 : List Int) (a3 : Bool) (w : World) (w0 : (Lit.int .i64 a0).wf = true) (w1 : (Lit.int .i64 a1).wf = true) (w2 : (a2 = none ∧ len2 = 0 ∧ cap2 = 0 ∧ z2 = []) ∨ ∃ x, a2 = some x ∧ len2 ≤ cap2 ∧ cap2 ≤ maxLen ∧ z2.length = cap2 ∧ (∀ i, i < z2.length → w.cell? (x.add i) = some (.int .i64 (z2.getD i 0))) ∧ ∀ n ∈ z2, (Lit.int .i64 n).wf = true) (y2 : len2 * 8 ≤ 140737488351232) :
  Calls Try.prog 5 #[.int .i64 a0, .int .i64 a1, .slice a2 len2 cap2, .bool a3] w fun e w' => e = .returned (.bool true) ∧ Below w.heap.size w w' := by
 obtain ⟨l2, rfl, hr2, hm2, hw2, hc2⟩ := ReadsInt.ofRowC w2
 obtain ⟨k, h⟩ := P a0 a1 l2 a3 w0 w1 hm2 y2 hw2
 refine (culletlaw11_GenerAny.calls k a0 a1 _ _ l2 a3 true w (Kd.C_of_reads (d := (0 : Int)) (h1 := fun _ => rfl) hr2) hc2 h).mono ?_
 rintro e w' ⟨rfl, hd⟩
 exact ⟨rfl, hd⟩

end Go.Proofs.Ytkdoilmfchlpdaa.Y
