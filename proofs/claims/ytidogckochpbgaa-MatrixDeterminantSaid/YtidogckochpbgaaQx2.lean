-- Printed for this claim by mp.py, a program of its prover, through the kit's print. Lean checks it.
import Derived.Test.YtidogckochpbgaaQx0
import Derived.Test.YtidogckochpbgaaQx1
namespace Go.Proofs.Ytidogckochpbgaa.Q
open Go.RowKit Go.Proofs.YtidogckochpbgaaW.PrintWords Go.Proofs.YtidogckochpbgaaW.PrintLast Go.Proofs.YtidogckochpbgaaW.PrintMore Go.Proofs.Ytidogckochpbgaa.A
attribute [local go_sem] max2_int min2_int max_two min_two max_three min_three max_four min_four   -- for this text's walks alone
set_option linter.unusedVariables false
set_option linter.unusedSimpArgs false

/-! ### culletlaw10_MatrixDeterminant: function 5 -/
mutual
def culletlaw10_MatrixDeterminant.j0 : Nat → List (List Int) → List (List Int) → Bool → Option (Bool)
  | 0, _, _, _ => none
  | k + 1, x0, x1, x30 => if x30 = true then (some false) else ((culletlaw10_side.f k x0).bind fun t123 => (if t123 = 0 then (culletlaw10_MatrixDeterminant.j1 k x0 x1 t123 true) else (if t123 > 32 then (culletlaw10_MatrixDeterminant.j1 k x0 x1 t123 true) else (if 0 < (x0.length : Int) then (culletlaw10_MatrixDeterminant.j1 k x0 x1 t123 (((rd_L1 x0 0).length : Int) != t123)) else (none)))))
def culletlaw10_MatrixDeterminant.j1 : Nat → List (List Int) → List (List Int) → Int → Bool → Option (Bool)
  | 0, _, _, _, _ => none
  | k + 1, x0, x1, x7, x46 => if x46 = true then (some true) else ((culletlaw10_twin.f x0).bind fun t125 => ((matrix_Det.f t125).bind fun bt128 => ((culletlaw10_twin.f x0).bind fun t130 => ((matrix_Transpose.f k t130).bind fun bt133 => (if bt128.2 = 0 then (culletlaw10_MatrixDeterminant.j2 k x0 x1 bt128.1 x7 bt133.1 (bt133.2 != 0)) else (culletlaw10_MatrixDeterminant.j2 k x0 x1 bt128.1 x7 bt133.1 true))))))
def culletlaw10_MatrixDeterminant.j2 : Nat → List (List Int) → List (List Int) → Int → Int → List (List Int) → Bool → Option (Bool)
  | 0, _, _, _, _, _, _ => none
  | k + 1, x0, x1, x5, x7, x8, x64 => if x64 = true then (some false) else ((matrix_Det.f x8).bind fun bt137 => (if bt137.2 = 0 then (culletlaw10_MatrixDeterminant.j3 k x0 x1 x5 x7 (bt137.1 != x5)) else (culletlaw10_MatrixDeterminant.j3 k x0 x1 x5 x7 true)))
def culletlaw10_MatrixDeterminant.j3 : Nat → List (List Int) → List (List Int) → Int → Int → Bool → Option (Bool)
  | 0, _, _, _, _, _ => none
  | k + 1, x0, x1, x5, x7, x76 => if x76 = true then (some false) else (if x7 = 1 then (if 0 < (x0.length : Int) then (if 0 < ((rd_L1 x0 0).length : Int) then (some (x5 == (rd (rd_L1 x0 0) 0))) else (none)) else (none)) else (culletlaw10_MatrixDeterminant.l0 k x0 x1 x5 x7 0 0))
def culletlaw10_MatrixDeterminant.l0 : Nat → List (List Int) → List (List Int) → Int → Int → Int → Int → Option (Bool)
  | 0, _, _, _, _, _, _ => none
  | k + 1, x0, x1, x5, x7, x11, x12 => if x12 < x7 then (if 0 ≤ x7 then (if (x7 : Int).toNat ≤ 11728124029610 then (culletlaw10_MatrixDeterminant.l1 k x0 x1 x5 x7 x11 x12 (([] : List (List Int))) 1) else (none)) else (none)) else (if x11 = x5 then ((culletlaw10_side.f k x1).bind fun t165 => (if t165 = x7 then (if 0 < (x1.length : Int) then (culletlaw10_MatrixDeterminant.j6 k x0 x1 x5 (((rd_L1 x1 0).length : Int) != x7)) else (none)) else (culletlaw10_MatrixDeterminant.j6 k x0 x1 x5 true))) else (some false))
def culletlaw10_MatrixDeterminant.l1 : Nat → List (List Int) → List (List Int) → Int → Int → Int → Int → List (List Int) → Int → Option (Bool)
  | 0, _, _, _, _, _, _, _, _ => none
  | k + 1, x0, x1, x5, x7, x11, x12, x13, x14 => if x14 < x7 then ((some (([] : List Int) : List Int)).bind fun y144 => (if 0 ≤ x14 then (if x14 < (x0.length : Int) then (if 0 ≤ x12 then (if x12 ≤ ((rd_L1 x0 x14).length : Int) then (if y144.length + ((rd_L1 x0 x14).take (x12 : Int).toNat).length < 140737488355328 then ((some (y144 ++ ((rd_L1 x0 x14).take (x12 : Int).toNat) : List Int)).bind fun y149 => (if 0 ≤ (wrap64 (x12 + 1)) then (if (wrap64 (x12 + 1)) ≤ ((rd_L1 x0 x14).length : Int) then (if y149.length + ((rd_L1 x0 x14).drop ((wrap64 (x12 + 1)) : Int).toNat).length < 140737488355328 then (if x13.length < 5864062014805 then (culletlaw10_MatrixDeterminant.l1 k x0 x1 x5 x7 x11 x12 (x13 ++ [(y149 ++ ((rd_L1 x0 x14).drop ((wrap64 (x12 + 1)) : Int).toNat))]) (wrap64 (x14 + 1))) else (none)) else (none)) else (none)) else (none))) else (none)) else (none)) else (none)) else (none)) else (none))) else ((matrix_Det.f x13).bind fun bt160 => (if bt160.2 = 0 then (if 0 < (x0.length : Int) then (if 0 ≤ x12 then (if x12 < ((rd_L1 x0 0).length : Int) then ((gf8_Mul.f k (rd (rd_L1 x0 0) x12) bt160.1).bind fun t164 => (culletlaw10_MatrixDeterminant.l0 k x0 x1 x5 x7 (Go.bits .xor .u8 x11 t164) (wrap64 (x12 + 1)))) else (none)) else (none)) else (none)) else (some false)))
def culletlaw10_MatrixDeterminant.j6 : Nat → List (List Int) → List (List Int) → Int → Bool → Option (Bool)
  | 0, _, _, _, _ => none
  | k + 1, x0, x1, x5, x149 => if x149 = true then (some true) else ((culletlaw10_twin.f x0).bind fun t167 => ((culletlaw10_twin.f x1).bind fun t170 => ((matrix_Mul.f k t167 t170).bind fun bt173 => (if bt173.2 = 0 then ((culletlaw10_twin.f x1).bind fun t177 => ((matrix_Det.f t177).bind fun bt180 => ((matrix_Det.f bt173.1).bind fun bt182 => (if bt180.2 = 0 then (if bt182.2 = 0 then ((gf8_Mul.f k x5 bt180.1).bind fun t184 => (some (bt182.1 == t184))) else (some false)) else (some false))))) else (some false)))))
end
def culletlaw10_MatrixDeterminant.f (k : Nat) (l0 : List (List Int)) (l1 : List (List Int)) : Option (Bool) := (matrix_Det.f (([(([1, 2] : List Int)), (([3, 4] : List Int))] : List (List Int)))).bind fun bt121 => (if bt121.2 = 0 then (culletlaw10_MatrixDeterminant.j0 k l0 l1 (bt121.1 != 2)) else (culletlaw10_MatrixDeterminant.j0 k l0 l1 true))
theorem culletlaw10_MatrixDeterminant.mono_l : ∀ k, (∀ y0 y1 y2, LeO (culletlaw10_MatrixDeterminant.j0 k y0 y1 y2) (culletlaw10_MatrixDeterminant.j0 (k + 1) y0 y1 y2)) ∧ (∀ y0 y1 y2 y3, LeO (culletlaw10_MatrixDeterminant.j1 k y0 y1 y2 y3) (culletlaw10_MatrixDeterminant.j1 (k + 1) y0 y1 y2 y3)) ∧ (∀ y0 y1 y2 y3 y4 y5, LeO (culletlaw10_MatrixDeterminant.j2 k y0 y1 y2 y3 y4 y5) (culletlaw10_MatrixDeterminant.j2 (k + 1) y0 y1 y2 y3 y4 y5)) ∧ (∀ y0 y1 y2 y3 y4, LeO (culletlaw10_MatrixDeterminant.j3 k y0 y1 y2 y3 y4) (culletlaw10_MatrixDeterminant.j3 (k + 1) y0 y1 y2 y3 y4)) ∧ (∀ y0 y1 y2 y3 y4 y5, LeO (culletlaw10_MatrixDeterminant.l0 k y0 y1 y2 y3 y4 y5) (culletlaw10_MatrixDeterminant.l0 (k + 1) y0 y1 y2 y3 y4 y5)) ∧ (∀ y0 y1 y2 y3 y4 y5 y6 y7, LeO (culletlaw10_MatrixDeterminant.l1 k y0 y1 y2 y3 y4 y5 y6 y7) (culletlaw10_MatrixDeterminant.l1 (k + 1) y0 y1 y2 y3 y4 y5 y6 y7)) ∧ (∀ y0 y1 y2 y3, LeO (culletlaw10_MatrixDeterminant.j6 k y0 y1 y2 y3) (culletlaw10_MatrixDeterminant.j6 (k + 1) y0 y1 y2 y3))
  | 0 => ⟨fun _ _ _ r h => by simp [culletlaw10_MatrixDeterminant.j0] at h, fun _ _ _ _ r h => by simp [culletlaw10_MatrixDeterminant.j1] at h, fun _ _ _ _ _ _ r h => by simp [culletlaw10_MatrixDeterminant.j2] at h, fun _ _ _ _ _ r h => by simp [culletlaw10_MatrixDeterminant.j3] at h, fun _ _ _ _ _ _ r h => by simp [culletlaw10_MatrixDeterminant.l0] at h, fun _ _ _ _ _ _ _ _ r h => by simp [culletlaw10_MatrixDeterminant.l1] at h, fun _ _ _ _ r h => by simp [culletlaw10_MatrixDeterminant.j6] at h⟩
  | k + 1 => by
    obtain ⟨ih0, ih1, ih2, ih3, ih4, ih5, ih6⟩ := culletlaw10_MatrixDeterminant.mono_l k
    refine ⟨?_, ?_, ?_, ?_, ?_, ?_, ?_⟩
    · intro y0 y1 y2
      unfold culletlaw10_MatrixDeterminant.j0
      repeat' first
      | (with_reducible exact ih0 _ _ _)
      | (with_reducible exact ih1 _ _ _ _)
      | (with_reducible exact ih2 _ _ _ _ _ _)
      | (with_reducible exact ih3 _ _ _ _ _)
      | (with_reducible exact ih4 _ _ _ _ _ _)
      | (with_reducible exact ih5 _ _ _ _ _ _ _ _)
      | (with_reducible exact ih6 _ _ _ _)
      | (with_reducible exact culletlaw10_side.mono _ _)
      | (with_reducible exact gf8_Mul.mono _ _ _)
      | (with_reducible exact matrix_Mul.mono _ _ _)
      | (with_reducible exact matrix_Transpose.mono _ _)
      | (with_reducible exact LeO.refl _)
      | (with_reducible exact LeO.none _)
      | (with_reducible refine LeO.ite ?_ ?_)
      | (with_reducible refine LeO.bind ?_ (fun _ => ?_))
      | exact ih0 _ _ _
      | exact ih1 _ _ _ _
      | exact ih2 _ _ _ _ _ _
      | exact ih3 _ _ _ _ _
      | exact ih4 _ _ _ _ _ _
      | exact ih5 _ _ _ _ _ _ _ _
      | exact ih6 _ _ _ _
      | exact culletlaw10_side.mono _ _
      | exact gf8_Mul.mono _ _ _
      | exact matrix_Mul.mono _ _ _
      | exact matrix_Transpose.mono _ _
      | exact LeO.none _
      | refine LeO.ite ?_ ?_
      | refine LeO.bind ?_ (fun _ => ?_)
    · intro y0 y1 y2 y3
      unfold culletlaw10_MatrixDeterminant.j1
      repeat' first
      | (with_reducible exact ih0 _ _ _)
      | (with_reducible exact ih1 _ _ _ _)
      | (with_reducible exact ih2 _ _ _ _ _ _)
      | (with_reducible exact ih3 _ _ _ _ _)
      | (with_reducible exact ih4 _ _ _ _ _ _)
      | (with_reducible exact ih5 _ _ _ _ _ _ _ _)
      | (with_reducible exact ih6 _ _ _ _)
      | (with_reducible exact culletlaw10_side.mono _ _)
      | (with_reducible exact gf8_Mul.mono _ _ _)
      | (with_reducible exact matrix_Mul.mono _ _ _)
      | (with_reducible exact matrix_Transpose.mono _ _)
      | (with_reducible exact LeO.refl _)
      | (with_reducible exact LeO.none _)
      | (with_reducible refine LeO.ite ?_ ?_)
      | (with_reducible refine LeO.bind ?_ (fun _ => ?_))
      | exact ih0 _ _ _
      | exact ih1 _ _ _ _
      | exact ih2 _ _ _ _ _ _
      | exact ih3 _ _ _ _ _
      | exact ih4 _ _ _ _ _ _
      | exact ih5 _ _ _ _ _ _ _ _
      | exact ih6 _ _ _ _
      | exact culletlaw10_side.mono _ _
      | exact gf8_Mul.mono _ _ _
      | exact matrix_Mul.mono _ _ _
      | exact matrix_Transpose.mono _ _
      | exact LeO.none _
      | refine LeO.ite ?_ ?_
      | refine LeO.bind ?_ (fun _ => ?_)
    · intro y0 y1 y2 y3 y4 y5
      unfold culletlaw10_MatrixDeterminant.j2
      repeat' first
      | (with_reducible exact ih0 _ _ _)
      | (with_reducible exact ih1 _ _ _ _)
      | (with_reducible exact ih2 _ _ _ _ _ _)
      | (with_reducible exact ih3 _ _ _ _ _)
      | (with_reducible exact ih4 _ _ _ _ _ _)
      | (with_reducible exact ih5 _ _ _ _ _ _ _ _)
      | (with_reducible exact ih6 _ _ _ _)
      | (with_reducible exact culletlaw10_side.mono _ _)
      | (with_reducible exact gf8_Mul.mono _ _ _)
      | (with_reducible exact matrix_Mul.mono _ _ _)
      | (with_reducible exact matrix_Transpose.mono _ _)
      | (with_reducible exact LeO.refl _)
      | (with_reducible exact LeO.none _)
      | (with_reducible refine LeO.ite ?_ ?_)
      | (with_reducible refine LeO.bind ?_ (fun _ => ?_))
      | exact ih0 _ _ _
      | exact ih1 _ _ _ _
      | exact ih2 _ _ _ _ _ _
      | exact ih3 _ _ _ _ _
      | exact ih4 _ _ _ _ _ _
      | exact ih5 _ _ _ _ _ _ _ _
      | exact ih6 _ _ _ _
      | exact culletlaw10_side.mono _ _
      | exact gf8_Mul.mono _ _ _
      | exact matrix_Mul.mono _ _ _
      | exact matrix_Transpose.mono _ _
      | exact LeO.none _
      | refine LeO.ite ?_ ?_
      | refine LeO.bind ?_ (fun _ => ?_)
    · intro y0 y1 y2 y3 y4
      unfold culletlaw10_MatrixDeterminant.j3
      repeat' first
      | (with_reducible exact ih0 _ _ _)
      | (with_reducible exact ih1 _ _ _ _)
      | (with_reducible exact ih2 _ _ _ _ _ _)
      | (with_reducible exact ih3 _ _ _ _ _)
      | (with_reducible exact ih4 _ _ _ _ _ _)
      | (with_reducible exact ih5 _ _ _ _ _ _ _ _)
      | (with_reducible exact ih6 _ _ _ _)
      | (with_reducible exact culletlaw10_side.mono _ _)
      | (with_reducible exact gf8_Mul.mono _ _ _)
      | (with_reducible exact matrix_Mul.mono _ _ _)
      | (with_reducible exact matrix_Transpose.mono _ _)
      | (with_reducible exact LeO.refl _)
      | (with_reducible exact LeO.none _)
      | (with_reducible refine LeO.ite ?_ ?_)
      | (with_reducible refine LeO.bind ?_ (fun _ => ?_))
      | exact ih0 _ _ _
      | exact ih1 _ _ _ _
      | exact ih2 _ _ _ _ _ _
      | exact ih3 _ _ _ _ _
      | exact ih4 _ _ _ _ _ _
      | exact ih5 _ _ _ _ _ _ _ _
      | exact ih6 _ _ _ _
      | exact culletlaw10_side.mono _ _
      | exact gf8_Mul.mono _ _ _
      | exact matrix_Mul.mono _ _ _
      | exact matrix_Transpose.mono _ _
      | exact LeO.none _
      | refine LeO.ite ?_ ?_
      | refine LeO.bind ?_ (fun _ => ?_)
    · intro y0 y1 y2 y3 y4 y5
      unfold culletlaw10_MatrixDeterminant.l0
      repeat' first
      | (with_reducible exact ih0 _ _ _)
      | (with_reducible exact ih1 _ _ _ _)
      | (with_reducible exact ih2 _ _ _ _ _ _)
      | (with_reducible exact ih3 _ _ _ _ _)
      | (with_reducible exact ih4 _ _ _ _ _ _)
      | (with_reducible exact ih5 _ _ _ _ _ _ _ _)
      | (with_reducible exact ih6 _ _ _ _)
      | (with_reducible exact culletlaw10_side.mono _ _)
      | (with_reducible exact gf8_Mul.mono _ _ _)
      | (with_reducible exact matrix_Mul.mono _ _ _)
      | (with_reducible exact matrix_Transpose.mono _ _)
      | (with_reducible exact LeO.refl _)
      | (with_reducible exact LeO.none _)
      | (with_reducible refine LeO.ite ?_ ?_)
      | (with_reducible refine LeO.bind ?_ (fun _ => ?_))
      | exact ih0 _ _ _
      | exact ih1 _ _ _ _
      | exact ih2 _ _ _ _ _ _
      | exact ih3 _ _ _ _ _
      | exact ih4 _ _ _ _ _ _
      | exact ih5 _ _ _ _ _ _ _ _
      | exact ih6 _ _ _ _
      | exact culletlaw10_side.mono _ _
      | exact gf8_Mul.mono _ _ _
      | exact matrix_Mul.mono _ _ _
      | exact matrix_Transpose.mono _ _
      | exact LeO.none _
      | refine LeO.ite ?_ ?_
      | refine LeO.bind ?_ (fun _ => ?_)
    · intro y0 y1 y2 y3 y4 y5 y6 y7
      unfold culletlaw10_MatrixDeterminant.l1
      repeat' first
      | (with_reducible exact ih0 _ _ _)
      | (with_reducible exact ih1 _ _ _ _)
      | (with_reducible exact ih2 _ _ _ _ _ _)
      | (with_reducible exact ih3 _ _ _ _ _)
      | (with_reducible exact ih4 _ _ _ _ _ _)
      | (with_reducible exact ih5 _ _ _ _ _ _ _ _)
      | (with_reducible exact ih6 _ _ _ _)
      | (with_reducible exact culletlaw10_side.mono _ _)
      | (with_reducible exact gf8_Mul.mono _ _ _)
      | (with_reducible exact matrix_Mul.mono _ _ _)
      | (with_reducible exact matrix_Transpose.mono _ _)
      | (with_reducible exact LeO.refl _)
      | (with_reducible exact LeO.none _)
      | (with_reducible refine LeO.ite ?_ ?_)
      | (with_reducible refine LeO.bind ?_ (fun _ => ?_))
      | exact ih0 _ _ _
      | exact ih1 _ _ _ _
      | exact ih2 _ _ _ _ _ _
      | exact ih3 _ _ _ _ _
      | exact ih4 _ _ _ _ _ _
      | exact ih5 _ _ _ _ _ _ _ _
      | exact ih6 _ _ _ _
      | exact culletlaw10_side.mono _ _
      | exact gf8_Mul.mono _ _ _
      | exact matrix_Mul.mono _ _ _
      | exact matrix_Transpose.mono _ _
      | exact LeO.none _
      | refine LeO.ite ?_ ?_
      | refine LeO.bind ?_ (fun _ => ?_)
    · intro y0 y1 y2 y3
      unfold culletlaw10_MatrixDeterminant.j6
      repeat' first
      | (with_reducible exact ih0 _ _ _)
      | (with_reducible exact ih1 _ _ _ _)
      | (with_reducible exact ih2 _ _ _ _ _ _)
      | (with_reducible exact ih3 _ _ _ _ _)
      | (with_reducible exact ih4 _ _ _ _ _ _)
      | (with_reducible exact ih5 _ _ _ _ _ _ _ _)
      | (with_reducible exact ih6 _ _ _ _)
      | (with_reducible exact culletlaw10_side.mono _ _)
      | (with_reducible exact gf8_Mul.mono _ _ _)
      | (with_reducible exact matrix_Mul.mono _ _ _)
      | (with_reducible exact matrix_Transpose.mono _ _)
      | (with_reducible exact LeO.refl _)
      | (with_reducible exact LeO.none _)
      | (with_reducible refine LeO.ite ?_ ?_)
      | (with_reducible refine LeO.bind ?_ (fun _ => ?_))
      | exact ih0 _ _ _
      | exact ih1 _ _ _ _
      | exact ih2 _ _ _ _ _ _
      | exact ih3 _ _ _ _ _
      | exact ih4 _ _ _ _ _ _
      | exact ih5 _ _ _ _ _ _ _ _
      | exact ih6 _ _ _ _
      | exact culletlaw10_side.mono _ _
      | exact gf8_Mul.mono _ _ _
      | exact matrix_Mul.mono _ _ _
      | exact matrix_Transpose.mono _ _
      | exact LeO.none _
      | refine LeO.ite ?_ ?_
      | refine LeO.bind ?_ (fun _ => ?_)
theorem culletlaw10_MatrixDeterminant.mono : ∀ a0 a1 k, LeO (culletlaw10_MatrixDeterminant.f k a0 a1) (culletlaw10_MatrixDeterminant.f (k + 1) a0 a1) := by
  intro a0 a1 k
  obtain ⟨ih0, ih1, ih2, ih3, ih4, ih5, ih6⟩ := culletlaw10_MatrixDeterminant.mono_l k
  unfold culletlaw10_MatrixDeterminant.f
  repeat' first
      | (with_reducible exact ih0 _ _ _)
      | (with_reducible exact ih1 _ _ _ _)
      | (with_reducible exact ih2 _ _ _ _ _ _)
      | (with_reducible exact ih3 _ _ _ _ _)
      | (with_reducible exact ih4 _ _ _ _ _ _)
      | (with_reducible exact ih5 _ _ _ _ _ _ _ _)
      | (with_reducible exact ih6 _ _ _ _)
      | (with_reducible exact culletlaw10_side.mono _ _)
      | (with_reducible exact gf8_Mul.mono _ _ _)
      | (with_reducible exact matrix_Mul.mono _ _ _)
      | (with_reducible exact matrix_Transpose.mono _ _)
      | (with_reducible exact LeO.refl _)
      | (with_reducible exact LeO.none _)
      | (with_reducible refine LeO.ite ?_ ?_)
      | (with_reducible refine LeO.bind ?_ (fun _ => ?_))
      | exact ih0 _ _ _
      | exact ih1 _ _ _ _
      | exact ih2 _ _ _ _ _ _
      | exact ih3 _ _ _ _ _
      | exact ih4 _ _ _ _ _ _
      | exact ih5 _ _ _ _ _ _ _ _
      | exact ih6 _ _ _ _
      | exact culletlaw10_side.mono _ _
      | exact gf8_Mul.mono _ _ _
      | exact matrix_Mul.mono _ _ _
      | exact matrix_Transpose.mono _ _
      | exact LeO.none _
      | refine LeO.ite ?_ ?_
      | refine LeO.bind ?_ (fun _ => ?_)
set_option maxHeartbeats 8000000 in
set_option maxRecDepth 100000 in
theorem culletlaw10_MatrixDeterminant.calls (k : Nat) (A0 : Option Addr) (c0 : Nat) (l0 : List (List Int)) (A1 : Option Addr) (c1 : Nat) (l1 : List (List Int)) (r : Bool) (w : World) (hr0 : Kd.C (Kd.slice 5 (Kd.int .u8)) w A0 l0.length l0) (hc0 : l0.length ≤ c0) (hr1 : Kd.C (Kd.slice 5 (Kd.int .u8)) w A1 l1.length l1) (hc1 : l1.length ≤ c1) (h : culletlaw10_MatrixDeterminant.f k l0 l1 = some r) :
    Calls Try.prog 5 #[.slice A0 l0.length c0, .slice A1 l1.length c1] w fun e w' => e = .returned (.bool r) ∧ Below w.heap.size w w' := by
  have HR0 := Aside0.mk hr0
  have HC0 := Aside0.mk hc0
  clear hr0 hc0
  have HR1 := Aside0.mk hr1
  have HC1 := Aside0.mk hc1
  clear hr1 hc1
  have HB := Aside0.mk (Below.refl w.heap.size w)
  have H : ((matrix_Det.f (([(([1, 2] : List Int)), (([3, 4] : List Int))] : List (List Int)))).bind fun bt121 => (if bt121.2 = 0 then (culletlaw10_MatrixDeterminant.j0 k l0 l1 (bt121.1 != 2)) else (culletlaw10_MatrixDeterminant.j0 k l0 l1 true))) = some r := h
  clear h
  obtain ⟨y112, hy112⟩ : ∃ y_ : List Int, y_ = (([1, 2] : List Int)) := ⟨_, rfl⟩
  replace H : ((matrix_Det.f (([y112, (([3, 4] : List Int))] : List (List Int)))).bind fun bt121 => (if bt121.2 = 0 then (culletlaw10_MatrixDeterminant.j0 k l0 l1 (bt121.1 != 2)) else (culletlaw10_MatrixDeterminant.j0 k l0 l1 true))) = some r := by first | (rw [hy112]; with_reducible exact H) | (have H2_ := (Option.bind_some _ _).symm.trans H; rw [hy112]; with_reducible exact H2_) | (have H2_ := (Option.bind_some _ _).symm.trans H; with_reducible exact H2_) | with_reducible exact H | (rw [hy112]; exact H) | exact H
  have Ny112 := Aside0.mk hy112
  clear hy112
  obtain ⟨y115, hy115⟩ : ∃ y_ : List Int, y_ = (([3, 4] : List Int)) := ⟨_, rfl⟩
  replace H : ((matrix_Det.f (([y112, y115] : List (List Int)))).bind fun bt121 => (if bt121.2 = 0 then (culletlaw10_MatrixDeterminant.j0 k l0 l1 (bt121.1 != 2)) else (culletlaw10_MatrixDeterminant.j0 k l0 l1 true))) = some r := by first | (rw [hy115]; with_reducible exact H) | (have H2_ := (Option.bind_some _ _).symm.trans H; rw [hy115]; with_reducible exact H2_) | (have H2_ := (Option.bind_some _ _).symm.trans H; with_reducible exact H2_) | with_reducible exact H | (rw [hy115]; exact H) | exact H
  have Ny115 := Aside0.mk hy115
  clear hy115
  obtain ⟨y118, hy118⟩ : ∃ y_ : List (List Int), y_ = (([y112, y115] : List (List Int))) := ⟨_, rfl⟩
  replace H : ((matrix_Det.f y118).bind fun bt121 => (if bt121.2 = 0 then (culletlaw10_MatrixDeterminant.j0 k l0 l1 (bt121.1 != 2)) else (culletlaw10_MatrixDeterminant.j0 k l0 l1 true))) = some r := by first | (rw [hy118]; with_reducible exact H) | (have H2_ := (Option.bind_some _ _).symm.trans H; rw [hy118]; with_reducible exact H2_) | (have H2_ := (Option.bind_some _ _).symm.trans H; with_reducible exact H2_) | with_reducible exact H | (rw [hy118]; exact H) | exact H
  have Ny118 := Aside0.mk hy118
  clear hy118
  replace H := Option.bind_eq_some_iff.mp H
  obtain ⟨⟨t121, t122⟩, A30, H⟩ := H
  replace H : (if t122 = 0 then (culletlaw10_MatrixDeterminant.j0 k l0 l1 (t121 != 2)) else (culletlaw10_MatrixDeterminant.j0 k l0 l1 true)) = some r := H
  have A3 := Aside0.mk A30
  clear A30
  have HC4 := Aside0.mk H
  clear H
  go_enter Try.func5, Try.ntmps5
  go_upto_region 2 with (first | ((with_reducible refine gate_dst (N := 19) rfl ?_); (try (refine gate_guard (by rfl) ?_; dsimp only)); refine Kd.R_lit (Kd.int .u8) _ 5 ?hg (N := 19) ?hd (xs := ([1, 2] : List Int)) (inner := [.int .u8 1, .int .u8 2]) (ok := fun _ => True) (okp := fun _ => True) ?hr ?hp (fun _ hk => hk) trivial (Below.refl _ _) (Nat.le_refl _) (by simp) ?_; (case hd => rfl); (case hg => rfl); (case hr => first | (go_simp; done) | (go_simp; rfl)); (case hp => exact (Reps.one (show Kd.M (Kd.int .u8) _ _ _ 1 [.int .u8 1] from rfl) (Reps.one (show Kd.M (Kd.int .u8) _ _ _ 2 [.int .u8 2] from rfl) (Reps.none _ _)))); intro v113 w5 ho6 hb hg_ hnew_; clear hg_ hnew_; (first | rw [← Ny112.out] at ho6 | (simp only [Int.reduceToNat] at ho6; rw [← Ny112.out] at ho6)); have n0_ := Aside0.mk (Kd.R_lower ho6 (below_size (by repeat (first | (with_reducible first | exact HB.out | apply below_alloc | apply pw_below_drewN | apply below_drew1) | exact HB.out)))); have n1_ := Aside0.mk (below_step (by repeat (first | (with_reducible first | exact HB.out | apply below_alloc | apply pw_below_drewN | apply below_drew1) | exact HB.out)) hb); clear HB; have HO114 := n0_; have HB := n1_; clear n0_ n1_; clear hb ho6) | ((with_reducible refine gate_dst (N := 20) rfl ?_); (try (refine gate_guard (by rfl) ?_; dsimp only)); refine Kd.R_lit (Kd.int .u8) _ 5 ?hg (N := 20) ?hd (xs := ([3, 4] : List Int)) (inner := [.int .u8 3, .int .u8 4]) (ok := fun _ => True) (okp := fun _ => True) ?hr ?hp (fun _ hk => hk) trivial (Below.refl _ _) (Nat.le_refl _) (by simp) ?_; (case hd => rfl); (case hg => rfl); (case hr => first | (go_simp; done) | (go_simp; rfl)); (case hp => exact (Reps.one (show Kd.M (Kd.int .u8) _ _ _ 3 [.int .u8 3] from rfl) (Reps.one (show Kd.M (Kd.int .u8) _ _ _ 4 [.int .u8 4] from rfl) (Reps.none _ _)))); intro v116 w7 ho8 hb hg_ hnew_; clear hg_ hnew_; (first | rw [← Ny115.out] at ho8 | (simp only [Int.reduceToNat] at ho8; rw [← Ny115.out] at ho8)); have n0_ := Aside0.mk (Kd.R_elder' (by (with_reducible repeat (first | apply Kd.R_alloc | apply Kd.R_drewN | apply Kd.R_drew)); exact HO114.out) (Kd.R_base ho8) hb); have n1_ := Aside0.mk (Kd.R_lower (Kd.R_new' ho8 (Kd.R_lt (by (with_reducible repeat (first | apply Kd.R_alloc | apply Kd.R_drewN | apply Kd.R_drew)); exact HO114.out))) (below_size (by repeat (first | (with_reducible first | exact HB.out | apply below_alloc | apply pw_below_drewN | apply below_drew1) | exact HB.out)))); have n2_ := Aside0.mk (below_step (by repeat (first | (with_reducible first | exact HB.out | apply below_alloc | apply pw_below_drewN | apply below_drew1) | exact HB.out)) hb); clear HO114; clear HB; have HO114 := n0_; have HO117 := n1_; have HB := n2_; clear n0_ n1_ n2_; clear hb ho8; obtain ⟨Ao9, co9, eo9⟩ := Kd.R_slice HO114.out; subst eo9; obtain ⟨Ao10, co10, eo10⟩ := Kd.R_slice HO117.out; subst eo10) | ((with_reducible refine gate_dst (N := 21) rfl ?_); (try (refine gate_guard (by rfl) ?_; dsimp only)); refine Kd.N_lit (Kd.slice 5 (Kd.int .u8)) _ 31 ?hg (N' := 21) ?hd (xs := ([y112, y115] : List (List Int))) (inner := [.slice Ao9 y112.length co9, .slice Ao10 y115.length co10]) (ok := (fun _ => True)) (okp := (fun _ => True)) ?hr ?hp (fun _ hk => hk) ((show ∀ k_, w7.heap.size ≤ k_ → (fun _ => True) k_ from fun k_ hk => trivial) _ (Nat.le_refl _)) (Below.refl _ _) (Nat.le_refl _) (by simp) ?_; (case hd => rfl); (case hg => rfl); (case hr => first | (go_simp; done) | (go_simp; rfl)); (case hp => exact (Reps.one (show Kd.FK (Kd.slice 5 (Kd.int .u8)) _ _ y112 [.slice Ao9 y112.length co9] from (Kd.FK_slice_mk (Kd.R_reads' (Kd.R_mono (ok' := (fun _ => True)) (HO114.out) (fun k_ hk => trivial))).2.1 (Kd.R_F (Kd.R_mono (ok' := (fun _ => True)) (HO114.out) (fun k_ hk => trivial))))) (Reps.one (show Kd.FK (Kd.slice 5 (Kd.int .u8)) _ _ y115 [.slice Ao10 y115.length co10] from (Kd.FK_slice_mk (Kd.R_reads' (Kd.R_mono (ok' := (fun _ => True)) (HO117.out) (fun k_ hk => trivial))).2.1 (Kd.R_F (Kd.R_mono (ok' := (fun _ => True)) (HO117.out) (fun k_ hk => trivial))))) (Reps.none _ _)))); intro v119 w11 ho12 hb hg_ hnew_; clear hg_ hnew_; (first | rw [← Ny118.out] at ho12 | (simp only [Int.reduceToNat] at ho12; rw [← Ny118.out] at ho12)); have n0_ := Aside0.mk (Kd.N_lower ho12 (below_size (by repeat (first | (with_reducible first | exact HB.out | apply below_alloc | apply pw_below_drewN | apply below_drew1) | exact HB.out)))); have n1_ := Aside0.mk (below_step (by repeat (first | (with_reducible first | exact HB.out | apply below_alloc | apply pw_below_drewN | apply below_drew1) | exact HB.out)) hb); clear HB; clear HO114; clear HO117; have HO120 := n0_; have HB := n1_; clear n0_ n1_; clear hb ho12; obtain ⟨Ao13, co13, eo13⟩ := Kd.N_slice HO120.out; subst eo13) | ((with_reducible refine gate_callee (f := 18) rfl ?_); refine goesL_ (some 22) rfl rfl Try.func18 (by kernel_rfl) rfl #[.slice Ao13 y118.length co13] rfl (by (try simp only [List.map_toArray, List.map_cons, List.map_nil]); first | done | rfl | (simp only [tb_wrap8]; done) | (simp only [tb_wrap8]; rfl) | (simp only [List.length_drop, List.length_take]; rfl)) ?_; (with_reducible refine (matrix_Det.calls _ _ y118 t121 t122 _ ?side1 ?side2 A3.out).mono ?_); (case side1 => repeat (first | exact (Kd.N_reads' HO120.out).2.2 | (with_reducible refine Kd.C_alloc ?_ _) | (with_reducible refine Kd.C_drewN ?_ _) | (with_reducible refine Kd.C_drew ?_))); (case side2 => exact (Kd.N_reads' HO120.out).2.1); rintro e w14 ⟨rfl, hb⟩; refine ⟨_, rfl, ?_⟩; have n0_ := Aside0.mk (Kd.N_below (by (with_reducible repeat (first | apply Kd.N_alloc | apply Kd.N_drewN | apply Kd.N_drew)); exact HO120.out) hb); have n1_ := Aside0.mk (below_step (by repeat (first | (with_reducible first | exact HB.out | apply below_alloc | apply pw_below_drewN | apply below_drew1) | exact HB.out)) hb); clear HO120; clear HB; have HO120 := n0_; have HB := n1_; clear n0_ n1_; (try clear hb); (try clear hb2); (try clear hk); (try clear hi)))
  (try simp only [Act.put, List.setIfInBounds_toArray, List.set_cons_zero, List.set_cons_succ])
  go_cut [30] (fun v30 wc => ∃ (kq : Nat) (x30_3 : Bool), v30 = .bool x30_3 ∧ Aside0 (culletlaw10_MatrixDeterminant.j0 kq l0 l1 x30_3 = some r) ∧ Aside0 (kq ≤ k) ∧ Aside0 (Below w.heap.size w wc))
  case first =>
    have H := HC4.out
    clear HC4
    by_cases c15 : t122 = 0
    · rw [if_pos c15] at H
      have c15b0 : (t122 == 0) = true := beq_iff_eq.mpr c15
      have c15b1 : (t122 != 0) = false := bne_eq_false_iff_eq.mpr c15
      clear c15
      (first | rw [c15b0] | (simp only [i64_w, i32_w]; rw [c15b0]) | skip)
      have H' := Aside0.mk H
      clear H
      go_wp2
      go_meet
      case rel => exact ⟨_, ((t121 != 2)), (by first | rfl | (simp; done) | (simp [*]; done)), H', ⟨by first | omega | exact Nat.le_refl _⟩, ⟨by repeat (first | (with_reducible first | exact HB.out | apply below_alloc | apply pw_below_drewN | apply below_drew1) | exact HB.out)⟩⟩
    · rw [if_neg c15] at H
      have c15b0 : (t122 == 0) = false := beq_eq_false_iff_ne.mpr c15
      have c15b1 : (t122 != 0) = true := bne_iff_ne.mpr c15
      (first | rw [c15b0] | (simp only [i64_w, i32_w]; rw [c15b0]) | skip)
      have H' := Aside0.mk H
      clear H
      go_wp2
      go_meet
      case rel => exact ⟨_, (true), (by first | rfl | (simp; done) | (simp [*]; done)), H', ⟨by first | omega | exact Nat.le_refl _⟩, ⟨by repeat (first | (with_reducible first | exact HB.out | apply below_alloc | apply pw_below_drewN | apply below_drew1) | exact HB.out)⟩⟩
  case rest =>
    clear HC4
    try clear c1
    try clear p2
    try clear c5
    try clear p8
    try clear c15
    try clear c15b0
    try clear c15b1
    obtain ⟨kq, x30_3, rfl, HA, HJ3, HB⟩ := hcut
    cases kq with
    | zero => exact absurd HA.out (by simp [culletlaw10_MatrixDeterminant.j0])
    | succ kj3 =>
      have H := HA.out
      clear HA
      simp only [culletlaw10_MatrixDeterminant.j0] at H
      by_cases c16 : x30_3 = true
      · subst c16
        have H1 : (some false) = some r := by rw [if_pos rfl] at H; exact H
        clear H
        have H := H1
        clear H1
        obtain rfl := Option.some.inj H
        go_wp2
        go_ret
        exact ⟨by first | rfl | (simp [errW_none, errW_some] <;> rfl) | (simp [*, errW_none, errW_some] <;> rfl), by repeat (first | (with_reducible first | exact HB.out | apply below_alloc | apply pw_below_drewN | apply below_drew1) | exact HB.out)⟩
      · replace c16 := Bool.eq_false_iff.mpr c16
        subst c16
        have H1 : ((culletlaw10_side.f kj3 l0).bind fun t123 => (if t123 = 0 then (culletlaw10_MatrixDeterminant.j1 kj3 l0 l1 t123 true) else (if t123 > 32 then (culletlaw10_MatrixDeterminant.j1 kj3 l0 l1 t123 true) else (if 0 < (l0.length : Int) then (culletlaw10_MatrixDeterminant.j1 kj3 l0 l1 t123 (((rd_L1 l0 0).length : Int) != t123)) else (none))))) = some r := by rw [if_neg (show ¬ (false = true) by decide)] at H; exact H
        clear H
        have H := H1
        clear H1
        replace H := Option.bind_eq_some_iff.mp H
        obtain ⟨t123, A170, H⟩ := H
        replace H : (if t123 = 0 then (culletlaw10_MatrixDeterminant.j1 kj3 l0 l1 t123 true) else (if t123 > 32 then (culletlaw10_MatrixDeterminant.j1 kj3 l0 l1 t123 true) else (if 0 < (l0.length : Int) then (culletlaw10_MatrixDeterminant.j1 kj3 l0 l1 t123 (((rd_L1 l0 0).length : Int) != t123)) else (none)))) = some r := H
        have A17 := Aside0.mk A170
        clear A170
        have HC18 := Aside0.mk H
        clear H
        go_upto_region 5 with (first | ((with_reducible refine gate_callee (f := 19) rfl ?_); refine goesL_ (some 32) rfl rfl Try.func19 (by kernel_rfl) rfl #[.slice A0 l0.length c0] rfl (by (try simp only [List.map_toArray, List.map_cons, List.map_nil]); first | done | rfl | (simp only [tb_wrap8]; done) | (simp only [tb_wrap8]; rfl) | (simp only [List.length_drop, List.length_take]; rfl)) ?_; (with_reducible refine (culletlaw10_side.calls kj3 _ _ l0 t123 _ ?side1 ?side2 A17.out).mono ?_); (case side1 => repeat (first | exact (Kd.C_below HR0.out HB.out) | (with_reducible refine Kd.C_alloc ?_ _) | (with_reducible refine Kd.C_drewN ?_ _) | (with_reducible refine Kd.C_drew ?_))); (case side2 => exact HC0.out); rintro e w' ⟨rfl, ⟨nd, rfl⟩⟩; refine ⟨_, rfl, ?_⟩))
        (try simp only [Act.put, List.setIfInBounds_toArray, List.set_cons_zero, List.set_cons_succ])
        go_cut [46] (fun v46 wc => ∃ (kq : Nat) (x46_17 : Bool), v46 = .bool x46_17 ∧ Aside0 (culletlaw10_MatrixDeterminant.j1 kq l0 l1 t123 x46_17 = some r) ∧ Aside0 (kq ≤ kj3) ∧ Aside0 (Below w.heap.size w wc))
        case first =>
          have H := HC18.out
          clear HC18
          by_cases c19 : t123 = 0
          · rw [if_pos c19] at H
            have c19b0 : (t123 == 0) = true := beq_iff_eq.mpr c19
            have c19b1 : (t123 != 0) = false := bne_eq_false_iff_eq.mpr c19
            clear c19
            (first | rw [c19b0] | (simp only [i64_w, i32_w]; rw [c19b0]) | skip)
            have H' := Aside0.mk H
            clear H
            go_wp2
            go_meet
            case rel => exact ⟨_, (true), (by first | rfl | (simp; done) | (simp [*]; done)), H', ⟨by have := HJ3.out; first | omega | exact Nat.le_refl _⟩, ⟨by repeat (first | (with_reducible first | exact HB.out | apply below_alloc | apply pw_below_drewN | apply below_drew1) | exact HB.out)⟩⟩
          · rw [if_neg c19] at H
            have c19b0 : (t123 == 0) = false := beq_eq_false_iff_ne.mpr c19
            have c19b1 : (t123 != 0) = true := bne_iff_ne.mpr c19
            (first | rw [c19b0] | (simp only [i64_w, i32_w]; rw [c19b0]) | skip)
            by_cases c20 : t123 > 32
            · rw [if_pos c20] at H
              have c20b0 : decide (32 < t123) = true := decide_eq_true c20
              clear c20
              have H' := Aside0.mk H
              clear H
              go_wp2
              go_meet
              case rel => exact ⟨_, (true), (by first | rfl | (simp; done) | (simp [*]; done)), H', ⟨by have := HJ3.out; first | omega | exact Nat.le_refl _⟩, ⟨by repeat (first | (with_reducible first | exact HB.out | apply below_alloc | apply pw_below_drewN | apply below_drew1) | exact HB.out)⟩⟩
            · rw [if_neg c20] at H
              have c20b0 : decide (32 < t123) = false := decide_eq_false c20
              clear c20
              by_cases c21 : 0 < (l0.length : Int)
              · rw [if_pos c21] at H
                have c21b0 : decide (0 < (l0.length : Int)) = true := decide_eq_true c21
                have c21b1 : decide (0 < l0.length) = true := decide_eq_true (by omega)
                clear c21
                have H' := Aside0.mk H
                clear H
                have p124 : 0 ≤ (0 : Int) := (by omega)
                have q124 : 0 < (l0.length : Int) := of_decide_eq_true (by first | (with_reducible assumption) | assumption)
                obtain ⟨ad124, A124_0, c124_0, e124, hx124_0, hl124_0, hi124_0⟩ := at_L1 HR0.out 0 p124 q124
                cases e124
                have qi124 : (0 < l0.length) = True := eq_true (by omega)
                (try rw [show ((0 : Int)).toNat = 0 from rfl] at hx124_0)
                (try rw [Addr.add_zero'] at hx124_0)
                replace hx124_0 := (HB.out.cell (World.block_lt_of_cell? w _ hx124_0)).trans hx124_0
                have HR124_0 := Aside0.mk hi124_0
                have HC124_0 := Aside0.mk hl124_0
                clear hi124_0 hl124_0
                replace p124 := eq_true p124
                replace q124 := eq_true q124
                go_wp2
                go_meet
                case rel => exact ⟨_, ((((rd_L1 l0 0).length : Int) != t123)), (by first | rfl | (simp; done) | (simp [*]; done)), H', ⟨by have := HJ3.out; first | omega | exact Nat.le_refl _⟩, ⟨by repeat (first | (with_reducible first | exact HB.out | apply below_alloc | apply pw_below_drewN | apply below_drew1) | exact HB.out)⟩⟩
              · rw [if_neg c21] at H
                exact absurd H (by simp)
        case rest =>
          clear HC18
          try clear c1
          try clear p1
          try clear q1
          try clear hx1
          try clear qi1
          try clear c2
          try clear p2
          try clear c5
          try clear p8
          try clear c12
          try clear p12
          try clear q12
          try clear hx12
          try clear qi12
          try clear c15
          try clear c15b0
          try clear c15b1
          try clear c16
          try clear c18
          try clear c19
          try clear c19b0
          try clear c19b1
          try clear c20
          try clear c20b0
          try clear c21
          try clear c21b0
          try clear c21b1
          try clear hx124_0
          try clear p124
          try clear p2
          try clear p8
          try clear q124
          obtain ⟨kq, x46_17, rfl, HA, HJ17, HB⟩ := hcut
          cases kq with
          | zero => exact absurd HA.out (by simp [culletlaw10_MatrixDeterminant.j1])
          | succ kj17 =>
            have H := HA.out
            clear HA
            simp only [culletlaw10_MatrixDeterminant.j1] at H
            by_cases c22 : x46_17 = true
            · subst c22
              have H1 : (some true) = some r := by rw [if_pos rfl] at H; exact H
              clear H
              have H := H1
              clear H1
              obtain rfl := Option.some.inj H
              go_wp2
              go_ret
              exact ⟨by first | rfl | (simp [errW_none, errW_some] <;> rfl) | (simp [*, errW_none, errW_some] <;> rfl), by repeat (first | (with_reducible first | exact HB.out | apply below_alloc | apply pw_below_drewN | apply below_drew1) | exact HB.out)⟩
            · replace c22 := Bool.eq_false_iff.mpr c22
              subst c22
              have H1 : ((culletlaw10_twin.f l0).bind fun t125 => ((matrix_Det.f t125).bind fun bt128 => ((culletlaw10_twin.f l0).bind fun t130 => ((matrix_Transpose.f kj17 t130).bind fun bt133 => (if bt128.2 = 0 then (culletlaw10_MatrixDeterminant.j2 kj17 l0 l1 bt128.1 t123 bt133.1 (bt133.2 != 0)) else (culletlaw10_MatrixDeterminant.j2 kj17 l0 l1 bt128.1 t123 bt133.1 true)))))) = some r := by rw [if_neg (show ¬ (false = true) by decide)] at H; exact H
              clear H
              have H := H1
              clear H1
              replace H := Option.bind_eq_some_iff.mp H
              obtain ⟨t125, A230, H⟩ := H
              replace H : ((matrix_Det.f t125).bind fun bt128 => ((culletlaw10_twin.f l0).bind fun t130 => ((matrix_Transpose.f kj17 t130).bind fun bt133 => (if bt128.2 = 0 then (culletlaw10_MatrixDeterminant.j2 kj17 l0 l1 bt128.1 t123 bt133.1 (bt133.2 != 0)) else (culletlaw10_MatrixDeterminant.j2 kj17 l0 l1 bt128.1 t123 bt133.1 true))))) = some r := H
              have A23 := Aside0.mk A230
              clear A230
              replace H := Option.bind_eq_some_iff.mp H
              obtain ⟨⟨t128, t129⟩, A240, H⟩ := H
              replace H : ((culletlaw10_twin.f l0).bind fun t130 => ((matrix_Transpose.f kj17 t130).bind fun bt133 => (if t129 = 0 then (culletlaw10_MatrixDeterminant.j2 kj17 l0 l1 t128 t123 bt133.1 (bt133.2 != 0)) else (culletlaw10_MatrixDeterminant.j2 kj17 l0 l1 t128 t123 bt133.1 true)))) = some r := H
              have A24 := Aside0.mk A240
              clear A240
              replace H := Option.bind_eq_some_iff.mp H
              obtain ⟨t130, A250, H⟩ := H
              replace H : ((matrix_Transpose.f kj17 t130).bind fun bt133 => (if t129 = 0 then (culletlaw10_MatrixDeterminant.j2 kj17 l0 l1 t128 t123 bt133.1 (bt133.2 != 0)) else (culletlaw10_MatrixDeterminant.j2 kj17 l0 l1 t128 t123 bt133.1 true))) = some r := H
              have A25 := Aside0.mk A250
              clear A250
              replace H := Option.bind_eq_some_iff.mp H
              obtain ⟨⟨t133, t134⟩, A260, H⟩ := H
              replace H : (if t129 = 0 then (culletlaw10_MatrixDeterminant.j2 kj17 l0 l1 t128 t123 t133 (t134 != 0)) else (culletlaw10_MatrixDeterminant.j2 kj17 l0 l1 t128 t123 t133 true)) = some r := H
              have A26 := Aside0.mk A260
              clear A260
              have HC27 := Aside0.mk H
              clear H
              go_upto_region 9 with (first | ((with_reducible refine gate_callee (f := 20) rfl ?_); refine goesL_ (some 49) rfl rfl Try.func20 (by kernel_rfl) rfl #[.slice A0 l0.length c0] rfl (by (try simp only [List.map_toArray, List.map_cons, List.map_nil]); first | done | rfl | (simp only [tb_wrap8]; done) | (simp only [tb_wrap8]; rfl) | (simp only [List.length_drop, List.length_take]; rfl)) ?_; (with_reducible refine (culletlaw10_twin.calls _ _ l0 t125 _ ?side1 ?side2 A23.out).mono ?_); (case side1 => repeat (first | exact (Kd.C_below HR0.out HB.out) | (with_reducible refine Kd.C_alloc ?_ _) | (with_reducible refine Kd.C_drewN ?_ _) | (with_reducible refine Kd.C_drew ?_))); (case side2 => exact HC0.out); rintro e w28 ⟨v126, rfl, ho0, hb⟩; refine ⟨_, rfl, ?_⟩; have n0_ := Aside0.mk (Kd.N_lower (Kd.N_mono (ok' := fun k_ => True) (Kd.S_N (Kd.S_bound ho0)) (fun k_ hk_ => trivial)) (below_size (by repeat (first | (with_reducible first | exact HB.out | apply below_alloc | apply pw_below_drewN | apply below_drew1) | exact HB.out)))); have n1_ := Aside0.mk (below_step (by repeat (first | (with_reducible first | exact HB.out | apply below_alloc | apply pw_below_drewN | apply below_drew1) | exact HB.out)) hb); clear HB; have HO127 := n0_; have HB := n1_; clear n0_ n1_; (try clear hb); (try clear hb2); (try clear hk); (try clear hi); (try clear ho0); obtain ⟨Ao29, co29, eo29⟩ := Kd.N_slice HO127.out; subst eo29) | ((with_reducible refine gate_callee (f := 18) rfl ?_); refine goesL_ (some 50) rfl rfl Try.func18 (by kernel_rfl) rfl #[.slice Ao29 t125.length co29] rfl (by (try simp only [List.map_toArray, List.map_cons, List.map_nil]); first | done | rfl | (simp only [tb_wrap8]; done) | (simp only [tb_wrap8]; rfl) | (simp only [List.length_drop, List.length_take]; rfl)) ?_; (with_reducible refine (matrix_Det.calls _ _ t125 t128 t129 _ ?side1 ?side2 A24.out).mono ?_); (case side1 => repeat (first | exact (Kd.N_reads' HO127.out).2.2 | (with_reducible refine Kd.C_alloc ?_ _) | (with_reducible refine Kd.C_drewN ?_ _) | (with_reducible refine Kd.C_drew ?_))); (case side2 => exact (Kd.N_reads' HO127.out).2.1); rintro e w30 ⟨rfl, hb⟩; refine ⟨_, rfl, ?_⟩; have n0_ := Aside0.mk (Kd.N_below (by (with_reducible repeat (first | apply Kd.N_alloc | apply Kd.N_drewN | apply Kd.N_drew)); exact HO127.out) hb); have n1_ := Aside0.mk (below_step (by repeat (first | (with_reducible first | exact HB.out | apply below_alloc | apply pw_below_drewN | apply below_drew1) | exact HB.out)) hb); clear HO127; clear HB; have HO127 := n0_; have HB := n1_; clear n0_ n1_; (try clear hb); (try clear hb2); (try clear hk); (try clear hi)) | ((with_reducible refine gate_callee (f := 20) rfl ?_); refine goesL_ (some 55) rfl rfl Try.func20 (by kernel_rfl) rfl #[.slice A0 l0.length c0] rfl (by (try simp only [List.map_toArray, List.map_cons, List.map_nil]); first | done | rfl | (simp only [tb_wrap8]; done) | (simp only [tb_wrap8]; rfl) | (simp only [List.length_drop, List.length_take]; rfl)) ?_; (with_reducible refine (culletlaw10_twin.calls _ _ l0 t130 _ ?side1 ?side2 A25.out).mono ?_); (case side1 => repeat (first | exact (Kd.C_below HR0.out HB.out) | (with_reducible refine Kd.C_alloc ?_ _) | (with_reducible refine Kd.C_drewN ?_ _) | (with_reducible refine Kd.C_drew ?_))); (case side2 => exact HC0.out); rintro e w31 ⟨v131, rfl, ho0, hb⟩; refine ⟨_, rfl, ?_⟩; have n0_ := Aside0.mk (Kd.N_elder' (by (with_reducible repeat (first | apply Kd.N_alloc | apply Kd.N_drewN | apply Kd.N_drew)); exact HO127.out) (by first | exact Kd.N_base ho0 | exact Kd.S_base ho0) hb); have n1_ := Aside0.mk (Kd.N_lower (Kd.N_mono (ok' := fun k_ => some k_ ≠ (.slice Ao29 t125.length co29 : Value).ownBlock) (Kd.S_N (Kd.S_bound ho0)) (fun k_ hk_ => (Kd.fresh' (Kd.N_lt (by (with_reducible repeat (first | apply Kd.N_alloc | apply Kd.N_drewN | apply Kd.N_drew)); exact HO127.out)) k_ hk_.2.1))) (below_size (by repeat (first | (with_reducible first | exact HB.out | apply below_alloc | apply pw_below_drewN | apply below_drew1) | exact HB.out)))); have n2_ := Aside0.mk (below_step (by repeat (first | (with_reducible first | exact HB.out | apply below_alloc | apply pw_below_drewN | apply below_drew1) | exact HB.out)) hb); clear HO127; clear HB; have HO127 := n0_; have HO132 := n1_; have HB := n2_; clear n0_ n1_ n2_; (try clear hb); (try clear hb2); (try clear hk); (try clear hi); (try clear ho0); obtain ⟨Ao32, co32, eo32⟩ := Kd.N_slice HO132.out; subst eo32) | ((with_reducible refine gate_callee (f := 21) rfl ?_); refine goesL_ (some 56) rfl rfl Try.func21 (by kernel_rfl) rfl #[.slice Ao32 t130.length co32] rfl (by (try simp only [List.map_toArray, List.map_cons, List.map_nil]); first | done | rfl | (simp only [tb_wrap8]; done) | (simp only [tb_wrap8]; rfl) | (simp only [List.length_drop, List.length_take]; rfl)) ?_; (with_reducible refine (matrix_Transpose.calls kj17 _ _ t130 t133 t134 _ ?side1 ?side2 A26.out).mono ?_); (case side1 => repeat (first | exact (Kd.N_reads' HO132.out).2.2 | (with_reducible refine Kd.C_alloc ?_ _) | (with_reducible refine Kd.C_drewN ?_ _) | (with_reducible refine Kd.C_drew ?_))); (case side2 => exact (Kd.N_reads' HO132.out).2.1); rintro e w33 ⟨v135, rfl, ho0, hb⟩; refine ⟨_, rfl, ?_⟩; have n0_ := Aside0.mk (Kd.N_elder' (by (with_reducible repeat (first | apply Kd.N_alloc | apply Kd.N_drewN | apply Kd.N_drew)); exact HO127.out) (by first | exact Kd.N_base ho0 | exact Kd.S_base ho0) hb); have n1_ := Aside0.mk (Kd.N_elder' (by (with_reducible repeat (first | apply Kd.N_alloc | apply Kd.N_drewN | apply Kd.N_drew)); exact HO132.out) (by first | exact Kd.N_base ho0 | exact Kd.S_base ho0) hb); have n2_ := Aside0.mk (Kd.N_lower (Kd.N_mono (ok' := fun k_ => some k_ ≠ (.slice Ao29 t125.length co29 : Value).ownBlock ∧ some k_ ≠ (.slice Ao32 t130.length co32 : Value).ownBlock) (Kd.S_N (Kd.S_bound ho0)) (fun k_ hk_ => ⟨(Kd.fresh' (Kd.N_lt (by (with_reducible repeat (first | apply Kd.N_alloc | apply Kd.N_drewN | apply Kd.N_drew)); exact HO127.out)) k_ hk_.2.1), (Kd.fresh' (Kd.N_lt (by (with_reducible repeat (first | apply Kd.N_alloc | apply Kd.N_drewN | apply Kd.N_drew)); exact HO132.out)) k_ hk_.2.1)⟩)) (below_size (by repeat (first | (with_reducible first | exact HB.out | apply below_alloc | apply pw_below_drewN | apply below_drew1) | exact HB.out)))); have n3_ := Aside0.mk (below_step (by repeat (first | (with_reducible first | exact HB.out | apply below_alloc | apply pw_below_drewN | apply below_drew1) | exact HB.out)) hb); clear HO127; clear HO132; clear HB; have HO127 := n0_; have HO132 := n1_; have HO136 := n2_; have HB := n3_; clear n0_ n1_ n2_ n3_; (try clear hb); (try clear hb2); (try clear hk); (try clear hi); (try clear ho0)))
              (try simp only [Act.put, List.setIfInBounds_toArray, List.set_cons_zero, List.set_cons_succ])
              go_cut [64] (fun v64 wc => ∃ (kq : Nat) (x64_26 : Bool), v64 = .bool x64_26 ∧ Aside0 (culletlaw10_MatrixDeterminant.j2 kq l0 l1 t128 t123 t133 x64_26 = some r) ∧ Aside0 (kq ≤ kj17) ∧ Aside0 (Kd.N (Kd.slice 5 (Kd.int .u8)) 31 wc w.heap.size (fun _ => True) v135 t133) ∧ Aside0 (Below w.heap.size w wc))
              case first =>
                have H := HC27.out
                clear HC27
                by_cases c34 : t129 = 0
                · rw [if_pos c34] at H
                  have c34b0 : (t129 == 0) = true := beq_iff_eq.mpr c34
                  have c34b1 : (t129 != 0) = false := bne_eq_false_iff_eq.mpr c34
                  clear c34
                  (first | rw [c34b0] | (simp only [i64_w, i32_w]; rw [c34b0]) | skip)
                  have H' := Aside0.mk H
                  clear H
                  go_wp2
                  go_meet
                  case rel => exact ⟨_, ((t134 != 0)), (by first | rfl | (simp; done) | (simp [*]; done)), H', ⟨by have := HJ3.out; have := HJ17.out; first | omega | exact Nat.le_refl _⟩, ⟨by (with_reducible repeat (first | apply Kd.N_alloc | apply Kd.N_drewN | apply Kd.N_drew)); exact Kd.N_mono HO136.out (fun _ hk => trivial)⟩, ⟨by repeat (first | (with_reducible first | exact HB.out | apply below_alloc | apply pw_below_drewN | apply below_drew1) | exact HB.out)⟩⟩
                · rw [if_neg c34] at H
                  have c34b0 : (t129 == 0) = false := beq_eq_false_iff_ne.mpr c34
                  have c34b1 : (t129 != 0) = true := bne_iff_ne.mpr c34
                  (first | rw [c34b0] | (simp only [i64_w, i32_w]; rw [c34b0]) | skip)
                  have H' := Aside0.mk H
                  clear H
                  go_wp2
                  go_meet
                  case rel => exact ⟨_, (true), (by first | rfl | (simp; done) | (simp [*]; done)), H', ⟨by have := HJ3.out; have := HJ17.out; first | omega | exact Nat.le_refl _⟩, ⟨by (with_reducible repeat (first | apply Kd.N_alloc | apply Kd.N_drewN | apply Kd.N_drew)); exact Kd.N_mono HO136.out (fun _ hk => trivial)⟩, ⟨by repeat (first | (with_reducible first | exact HB.out | apply below_alloc | apply pw_below_drewN | apply below_drew1) | exact HB.out)⟩⟩
              case rest =>
                clear HC27
                try clear c1
                try clear p1
                try clear q1
                try clear hx1
                try clear qi1
                try clear c2
                try clear p2
                try clear c3
                try clear c5
                try clear p8
                try clear c12
                try clear p12
                try clear q12
                try clear hx12
                try clear qi12
                try clear c15
                try clear c15b0
                try clear c15b1
                try clear c16
                try clear c18
                try clear c19
                try clear c19b0
                try clear c19b1
                try clear c20
                try clear c20b0
                try clear c21
                try clear c21b0
                try clear c21b1
                try clear c22
                try clear c34
                try clear c34b0
                try clear c34b1
                try clear hx124_0
                try clear p1
                try clear p12
                try clear p124
                try clear p2
                try clear p8
                try clear q1
                try clear q12
                try clear q124
                obtain ⟨kq, x64_26, rfl, HA, HJ26, HO_8, HB⟩ := hcut
                cases kq with
                | zero => exact absurd HA.out (by simp [culletlaw10_MatrixDeterminant.j2])
                | succ kj26 =>
                  have H := HA.out
                  clear HA
                  simp only [culletlaw10_MatrixDeterminant.j2] at H
                  by_cases c35 : x64_26 = true
                  · subst c35
                    have H1 : (some false) = some r := by rw [if_pos rfl] at H; exact H
                    clear H
                    have H := H1
                    clear H1
                    obtain rfl := Option.some.inj H
                    go_wp2
                    go_ret
                    exact ⟨by first | rfl | (simp [errW_none, errW_some] <;> rfl) | (simp [*, errW_none, errW_some] <;> rfl), by repeat (first | (with_reducible first | exact HB.out | apply below_alloc | apply pw_below_drewN | apply below_drew1) | exact HB.out)⟩
                  · replace c35 := Bool.eq_false_iff.mpr c35
                    subst c35
                    have H1 : ((matrix_Det.f t133).bind fun bt137 => (if bt137.2 = 0 then (culletlaw10_MatrixDeterminant.j3 kj26 l0 l1 t128 t123 (bt137.1 != t128)) else (culletlaw10_MatrixDeterminant.j3 kj26 l0 l1 t128 t123 true))) = some r := by rw [if_neg (show ¬ (false = true) by decide)] at H; exact H
                    clear H
                    have H := H1
                    clear H1
                    replace H := Option.bind_eq_some_iff.mp H
                    obtain ⟨⟨t137, t138⟩, A360, H⟩ := H
                    replace H : (if t138 = 0 then (culletlaw10_MatrixDeterminant.j3 kj26 l0 l1 t128 t123 (t137 != t128)) else (culletlaw10_MatrixDeterminant.j3 kj26 l0 l1 t128 t123 true)) = some r := H
                    have A36 := Aside0.mk A360
                    clear A360
                    have HC37 := Aside0.mk H
                    clear H
                    obtain ⟨Ao38, co38, eo38⟩ := Kd.N_slice HO_8.out
                    subst eo38
                    go_upto_region 12 with (first | ((with_reducible refine gate_callee (f := 18) rfl ?_); refine goesL_ (some 67) rfl rfl Try.func18 (by kernel_rfl) rfl #[.slice Ao38 t133.length co38] rfl (by (try simp only [List.map_toArray, List.map_cons, List.map_nil]); first | done | rfl | (simp only [tb_wrap8]; done) | (simp only [tb_wrap8]; rfl) | (simp only [List.length_drop, List.length_take]; rfl)) ?_; (with_reducible refine (matrix_Det.calls _ _ t133 t137 t138 _ ?side1 ?side2 A36.out).mono ?_); (case side1 => repeat (first | exact (Kd.N_reads' HO_8.out).2.2 | (with_reducible refine Kd.C_alloc ?_ _) | (with_reducible refine Kd.C_drewN ?_ _) | (with_reducible refine Kd.C_drew ?_))); (case side2 => exact (Kd.N_reads' HO_8.out).2.1); rintro e w39 ⟨rfl, hb⟩; refine ⟨_, rfl, ?_⟩; have n0_ := Aside0.mk (Kd.N_below (by (with_reducible repeat (first | apply Kd.N_alloc | apply Kd.N_drewN | apply Kd.N_drew)); exact HO_8.out) hb); have n1_ := Aside0.mk (below_step (by repeat (first | (with_reducible first | exact HB.out | apply below_alloc | apply pw_below_drewN | apply below_drew1) | exact HB.out)) hb); clear HO_8; clear HB; have HO_8 := n0_; have HB := n1_; clear n0_ n1_; (try clear hb); (try clear hb2); (try clear hk); (try clear hi)))
                    (try simp only [Act.put, List.setIfInBounds_toArray, List.set_cons_zero, List.set_cons_succ])
                    go_cut [76] (fun v76 wc => ∃ (kq : Nat) (x76_36 : Bool), v76 = .bool x76_36 ∧ Aside0 (culletlaw10_MatrixDeterminant.j3 kq l0 l1 t128 t123 x76_36 = some r) ∧ Aside0 (kq ≤ kj26) ∧ Aside0 (Below w.heap.size w wc))
                    case first =>
                      have H := HC37.out
                      clear HC37
                      by_cases c40 : t138 = 0
                      · rw [if_pos c40] at H
                        have c40b0 : (t138 == 0) = true := beq_iff_eq.mpr c40
                        have c40b1 : (t138 != 0) = false := bne_eq_false_iff_eq.mpr c40
                        clear c40
                        (first | rw [c40b0] | (simp only [i64_w, i32_w]; rw [c40b0]) | skip)
                        have H' := Aside0.mk H
                        clear H
                        go_wp2
                        go_meet
                        case rel => exact ⟨_, ((t137 != t128)), (by first | rfl | (simp; done) | (simp [*]; done)), H', ⟨by have := HJ3.out; have := HJ17.out; have := HJ26.out; first | omega | exact Nat.le_refl _⟩, ⟨by repeat (first | (with_reducible first | exact HB.out | apply below_alloc | apply pw_below_drewN | apply below_drew1) | exact HB.out)⟩⟩
                      · rw [if_neg c40] at H
                        have c40b0 : (t138 == 0) = false := beq_eq_false_iff_ne.mpr c40
                        have c40b1 : (t138 != 0) = true := bne_iff_ne.mpr c40
                        (first | rw [c40b0] | (simp only [i64_w, i32_w]; rw [c40b0]) | skip)
                        have H' := Aside0.mk H
                        clear H
                        go_wp2
                        go_meet
                        case rel => exact ⟨_, (true), (by first | rfl | (simp; done) | (simp [*]; done)), H', ⟨by have := HJ3.out; have := HJ17.out; have := HJ26.out; first | omega | exact Nat.le_refl _⟩, ⟨by repeat (first | (with_reducible first | exact HB.out | apply below_alloc | apply pw_below_drewN | apply below_drew1) | exact HB.out)⟩⟩
                    case rest =>
                      clear HC37
                      try clear c1
                      try clear p1
                      try clear q1
                      try clear hx1
                      try clear qi1
                      try clear c2
                      try clear p2
                      try clear c3
                      try clear c4
                      try clear c5
                      try clear p8
                      try clear c12
                      try clear p12
                      try clear q12
                      try clear hx12
                      try clear qi12
                      try clear c15
                      try clear c15b0
                      try clear c15b1
                      try clear c16
                      try clear c18
                      try clear c19
                      try clear c19b0
                      try clear c19b1
                      try clear c20
                      try clear c20b0
                      try clear c21
                      try clear c21b0
                      try clear c21b1
                      try clear c22
                      try clear c34
                      try clear c34b0
                      try clear c34b1
                      try clear c35
                      try clear c40
                      try clear c40b0
                      try clear c40b1
                      try clear hx124_0
                      try clear p1
                      try clear p12
                      try clear p124
                      try clear p2
                      try clear p8
                      try clear q1
                      try clear q12
                      try clear q124
                      obtain ⟨kq, x76_36, rfl, HA, HJ36, HB⟩ := hcut
                      cases kq with
                      | zero => exact absurd HA.out (by simp [culletlaw10_MatrixDeterminant.j3])
                      | succ kj36 =>
                        have H := HA.out
                        clear HA
                        simp only [culletlaw10_MatrixDeterminant.j3] at H
                        by_cases c41 : x76_36 = true
                        · subst c41
                          have H1 : (some false) = some r := by rw [if_pos rfl] at H; exact H
                          clear H
                          have H := H1
                          clear H1
                          obtain rfl := Option.some.inj H
                          go_wp2
                          go_ret
                          exact ⟨by first | rfl | (simp [errW_none, errW_some] <;> rfl) | (simp [*, errW_none, errW_some] <;> rfl), by repeat (first | (with_reducible first | exact HB.out | apply below_alloc | apply pw_below_drewN | apply below_drew1) | exact HB.out)⟩
                        · replace c41 := Bool.eq_false_iff.mpr c41
                          subst c41
                          have H1 : (if t123 = 1 then (if 0 < (l0.length : Int) then (if 0 < ((rd_L1 l0 0).length : Int) then (some (t128 == (rd (rd_L1 l0 0) 0))) else (none)) else (none)) else (culletlaw10_MatrixDeterminant.l0 kj36 l0 l1 t128 t123 0 0)) = some r := by rw [if_neg (show ¬ (false = true) by decide)] at H; exact H
                          clear H
                          have H := H1
                          clear H1
                          by_cases c42 : t123 = 1
                          · rw [if_pos c42] at H
                            have c42b0 : (t123 == 1) = true := beq_iff_eq.mpr c42
                            have c42b1 : (t123 != 1) = false := bne_eq_false_iff_eq.mpr c42
                            clear c42
                            by_cases c43 : 0 < (l0.length : Int)
                            · rw [if_pos c43] at H
                              have c43b0 : decide (0 < (l0.length : Int)) = true := decide_eq_true c43
                              have c43b1 : decide (0 < l0.length) = true := decide_eq_true (by omega)
                              clear c43
                              by_cases c44 : 0 < ((rd_L1 l0 0).length : Int)
                              · rw [if_pos c44] at H
                                have c44b0 : decide (0 < ((rd_L1 l0 0).length : Int)) = true := decide_eq_true c44
                                have c44b1 : decide (0 < (rd_L1 l0 0).length) = true := decide_eq_true (by omega)
                                clear c44
                                obtain rfl := Option.some.inj H
                                have p139 : 0 ≤ (0 : Int) := (by omega)
                                have q139 : 0 < (l0.length : Int) := of_decide_eq_true (by first | (with_reducible assumption) | assumption)
                                obtain ⟨ad139, A139_0, c139_0, e139, hx139_0, hl139_0, hi139_0⟩ := at_L1 HR0.out 0 p139 q139
                                cases e139
                                have qi139 : (0 < l0.length) = True := eq_true (by omega)
                                (try rw [show ((0 : Int)).toNat = 0 from rfl] at hx139_0)
                                (try rw [Addr.add_zero'] at hx139_0)
                                replace hx139_0 := (HB.out.cell (World.block_lt_of_cell? w _ hx139_0)).trans hx139_0
                                have HR139_0 := Aside0.mk hi139_0
                                have HC139_0 := Aside0.mk hl139_0
                                clear hi139_0 hl139_0
                                replace p139 := eq_true p139
                                replace q139 := eq_true q139
                                have p140 : 0 ≤ (0 : Int) := (by omega)
                                have q140 : 0 < ((rd_L1 l0 0).length : Int) := of_decide_eq_true (by first | (with_reducible assumption) | assumption)
                                obtain ⟨ad140, e140, hx140_0⟩ := Kd.at_int HR139_0.out 0 p140 q140
                                cases e140
                                have qi140 : (0 < (rd_L1 l0 0).length) = True := eq_true (by omega)
                                (try rw [show ((0 : Int)).toNat = 0 from rfl] at hx140_0)
                                (try rw [Addr.add_zero'] at hx140_0)
                                replace hx140_0 := (HB.out.cell (World.block_lt_of_cell? w _ hx140_0)).trans hx140_0
                                replace p140 := eq_true p140
                                replace q140 := eq_true q140
                                go_wp2
                                go_ret
                                exact ⟨by first | rfl | (simp [errW_none, errW_some] <;> rfl) | (simp [*, errW_none, errW_some] <;> rfl), by repeat (first | (with_reducible first | exact HB.out | apply below_alloc | apply pw_below_drewN | apply below_drew1) | exact HB.out)⟩
                              · rw [if_neg c44] at H
                                exact absurd H (by simp)
                            · rw [if_neg c43] at H
                              exact absurd H (by simp)
                          · rw [if_neg c42] at H
                            have c42b0 : (t123 == 1) = false := beq_eq_false_iff_ne.mpr c42
                            have c42b1 : (t123 != 1) = true := bne_iff_ne.mpr c42
                            have H' := Aside0.mk H
                            clear H
                            go_wp2
                            go_loopg [11, 12] kj36 (fun kq v11 v12 w' => ∃ (x11_5 : Int) (x12_5 : Int), v11 = .int .u8 x11_5 ∧ v12 = .int .i64 x12_5 ∧ Aside0 (culletlaw10_MatrixDeterminant.l0 kq l0 l1 t128 t123 x11_5 x12_5 = some r) ∧ Aside0 (kq ≤ kj36) ∧ Aside0 (Below w.heap.size w w'))
                            case atStart => exact ⟨(0), (0), (by first | rfl | (simp; done) | (simp [*]; done)), (by first | rfl | (simp; done) | (simp [*]; done)), H', ⟨Nat.le_refl _⟩, ⟨by repeat (first | (with_reducible first | exact HB.out | apply below_alloc | apply pw_below_drewN | apply below_drew1) | exact HB.out)⟩⟩
                            case round =>
                              clear H'
                              try clear c1
                              try clear p1
                              try clear q1
                              try clear hx1
                              try clear qi1
                              try clear c2
                              try clear p2
                              try clear c3
                              try clear c4
                              try clear c5
                              try clear p8
                              try clear c12
                              try clear p12
                              try clear q12
                              try clear hx12
                              try clear qi12
                              try clear c13
                              try clear p13
                              try clear q13
                              try clear hx13
                              try clear qi13
                              try clear p14
                              try clear q14
                              try clear hx14
                              try clear qi14
                              try clear c15
                              try clear c15b0
                              try clear c15b1
                              try clear c16
                              try clear c18
                              try clear c19
                              try clear c19b0
                              try clear c19b1
                              try clear c20
                              try clear c20b0
                              try clear c21
                              try clear c21b0
                              try clear c21b1
                              try clear c22
                              try clear c34
                              try clear c34b0
                              try clear c34b1
                              try clear c35
                              try clear c40
                              try clear c40b0
                              try clear c40b1
                              try clear c41
                              try clear c42
                              try clear c42b0
                              try clear c42b1
                              try clear c43
                              try clear c43b0
                              try clear c43b1
                              try clear c44
                              try clear c44b0
                              try clear c44b1
                              try clear hx124_0
                              try clear hx139_0
                              try clear hx140_0
                              try clear p1
                              try clear p12
                              try clear p124
                              try clear p139
                              try clear p140
                              try clear p2
                              try clear p8
                              try clear q1
                              try clear q12
                              try clear q124
                              try clear q139
                              try clear q140
                              obtain ⟨x11_5, x12_5, rfl, rfl, HA, HK5, HB⟩ := hrel
                              cases gk with
                              | zero => exact absurd HA.out (by simp [culletlaw10_MatrixDeterminant.l0])
                              | succ k5 =>
                                have H := HA.out
                                clear HA
                                simp only [culletlaw10_MatrixDeterminant.l0] at H
                                by_cases c45 : x12_5 < t123
                                · rw [if_pos c45] at H
                                  have c45b0 : decide (x12_5 < t123) = true := decide_eq_true c45
                                  clear c45
                                  by_cases c46 : 0 ≤ t123
                                  · rw [if_pos c46] at H
                                    have c46b0 := eq_true c46
                                    have c46b1 : decide (0 ≤ t123) = true := decide_eq_true c46
                                    clear c46
                                    by_cases c47 : (t123 : Int).toNat ≤ 11728124029610
                                    · rw [if_pos c47] at H
                                      have c47b0 := eq_true c47
                                      have c47b1 : decide ((t123 : Int).toNat ≤ 11728124029610) = true := decide_eq_true c47
                                      clear c47
                                      obtain ⟨y141, hy141⟩ : ∃ y_ : List (List Int), y_ = (([] : List (List Int))) := ⟨_, rfl⟩
                                      replace H : (culletlaw10_MatrixDeterminant.l1 k5 l0 l1 t128 t123 x11_5 x12_5 y141 1) = some r := by first | (rw [hy141]; with_reducible exact H) | (have H2_ := (Option.bind_some _ _).symm.trans H; rw [hy141]; with_reducible exact H2_) | (have H2_ := (Option.bind_some _ _).symm.trans H; with_reducible exact H2_) | with_reducible exact H | (rw [hy141]; exact H) | exact H
                                      have Ny141 := Aside0.mk hy141
                                      clear hy141
                                      have H' := Aside0.mk H
                                      clear H
                                      go_wp2_with (first | ((with_reducible refine gate_dst (N := 92) rfl ?_); (try (refine gate_guard (by rfl) ?_; dsimp only)); refine Kd.N_make0 (Kd.slice 5 (Kd.int .u8)) _ 31 rfl (N' := 92) rfl 22 _ _ rfl t123 rfl rfl Try.underlying22 (.slice none 0 0) 24 info31 rfl (by decide) (by omega) (ok := fun k_ => wr.heap.size ≤ k_) (Nat.le_refl _) (of_decide_eq_true (by first | (with_reducible assumption) | assumption)) (Nat.le_trans (Nat.mul_le_mul_right _ (of_decide_eq_true (by first | (with_reducible assumption) | assumption) : t123.toNat ≤ 11728124029610)) (by omega)) (Below.refl _ _) (Nat.le_refl _) ?_; intro v142 w48 ho49 hb hg_ hnew_; clear hg_ hnew_; (first | rw [← Ny141.out] at ho49 | (simp only [Int.reduceToNat] at ho49; rw [← Ny141.out] at ho49)); have n0_ := Aside0.mk (Kd.N_lower (Kd.N_mono (ok' := fun k_ => True) ho49 (fun k_ hk_ => trivial)) (below_size (by repeat (first | (with_reducible first | exact HB.out | apply below_alloc | apply pw_below_drewN | apply below_drew1) | exact HB.out)))); have n1_ := Aside0.mk (below_step (by repeat (first | (with_reducible first | exact HB.out | apply below_alloc | apply pw_below_drewN | apply below_drew1) | exact HB.out)) hb); clear HB; have HO143 := n0_; have HB := n1_; clear n0_ n1_; clear hb ho49))
                                      go_loopg [13, 14] k5 (fun kq v13 v14 w' => ∃ (x13_6 : List (List Int)) (x14_6 : Int), v14 = .int .i64 x14_6 ∧ Aside0 (culletlaw10_MatrixDeterminant.l1 kq l0 l1 t128 t123 x11_5 x12_5 x13_6 x14_6 = some r) ∧ Aside0 (kq ≤ k5) ∧ Aside0 (Kd.N (Kd.slice 5 (Kd.int .u8)) 31 w' w.heap.size (fun _ => True) v13 x13_6) ∧ Aside0 (Below w.heap.size w w'))
                                      case atStart => exact ⟨(y141), (1), (by first | rfl | (simp; done) | (simp [*]; done)), H', ⟨Nat.le_refl _⟩, ⟨by (with_reducible repeat (first | apply Kd.N_alloc | apply Kd.N_drewN | apply Kd.N_drew)); exact HO143.out⟩, ⟨by repeat (first | (with_reducible first | exact HB.out | apply below_alloc | apply pw_below_drewN | apply below_drew1) | exact HB.out)⟩⟩
                                      case round =>
                                        clear H'
                                        try clear c1
                                        try clear p1
                                        try clear q1
                                        try clear hx1
                                        try clear qi1
                                        try clear c2
                                        try clear p2
                                        try clear c3
                                        try clear c4
                                        try clear c5
                                        try clear p8
                                        try clear c12
                                        try clear p12
                                        try clear q12
                                        try clear hx12
                                        try clear qi12
                                        try clear c13
                                        try clear p13
                                        try clear q13
                                        try clear hx13
                                        try clear qi13
                                        try clear p14
                                        try clear q14
                                        try clear hx14
                                        try clear qi14
                                        try clear c15
                                        try clear c15b0
                                        try clear c15b1
                                        try clear c16
                                        try clear c18
                                        try clear c19
                                        try clear c19b0
                                        try clear c19b1
                                        try clear c20
                                        try clear c20b0
                                        try clear c21
                                        try clear c21b0
                                        try clear c21b1
                                        try clear c22
                                        try clear c34
                                        try clear c34b0
                                        try clear c34b1
                                        try clear c35
                                        try clear c40
                                        try clear c40b0
                                        try clear c40b1
                                        try clear c41
                                        try clear c42
                                        try clear c42b0
                                        try clear c42b1
                                        try clear c43
                                        try clear c43b0
                                        try clear c43b1
                                        try clear c44
                                        try clear c44b0
                                        try clear c44b1
                                        try clear c45
                                        try clear c45b0
                                        try clear c46
                                        try clear c46b0
                                        try clear c46b1
                                        try clear c47
                                        try clear c47b0
                                        try clear c47b1
                                        try clear hx124_0
                                        try clear hx139_0
                                        try clear hx140_0
                                        try clear p1
                                        try clear p12
                                        try clear p124
                                        try clear p13
                                        try clear p139
                                        try clear p14
                                        try clear p140
                                        try clear p2
                                        try clear p8
                                        try clear q1
                                        try clear q12
                                        try clear q124
                                        try clear q13
                                        try clear q139
                                        try clear q14
                                        try clear q140
                                        obtain ⟨x13_6, x14_6, rfl, HA, HK6, HO_13, HB⟩ := hrel
                                        cases gk with
                                        | zero => exact absurd HA.out (by simp [culletlaw10_MatrixDeterminant.l1])
                                        | succ k6 =>
                                          have H := HA.out
                                          clear HA
                                          simp only [culletlaw10_MatrixDeterminant.l1] at H
                                          by_cases c50 : x14_6 < t123
                                          · rw [if_pos c50] at H
                                            have c50b0 : decide (x14_6 < t123) = true := decide_eq_true c50
                                            clear c50
                                            obtain ⟨y144, hy144⟩ : ∃ y_ : List Int, y_ = (([] : List Int)) := ⟨_, rfl⟩
                                            replace H : (if 0 ≤ x14_6 then (if x14_6 < (l0.length : Int) then (if 0 ≤ x12_5 then (if x12_5 ≤ ((rd_L1 l0 x14_6).length : Int) then (if y144.length + ((rd_L1 l0 x14_6).take (x12_5 : Int).toNat).length < 140737488355328 then ((some (y144 ++ ((rd_L1 l0 x14_6).take (x12_5 : Int).toNat) : List Int)).bind fun y149 => (if 0 ≤ (wrap64 (x12_5 + 1)) then (if (wrap64 (x12_5 + 1)) ≤ ((rd_L1 l0 x14_6).length : Int) then (if y149.length + ((rd_L1 l0 x14_6).drop ((wrap64 (x12_5 + 1)) : Int).toNat).length < 140737488355328 then (if x13_6.length < 5864062014805 then (culletlaw10_MatrixDeterminant.l1 k6 l0 l1 t128 t123 x11_5 x12_5 (x13_6 ++ [(y149 ++ ((rd_L1 l0 x14_6).drop ((wrap64 (x12_5 + 1)) : Int).toNat))]) (wrap64 (x14_6 + 1))) else (none)) else (none)) else (none)) else (none))) else (none)) else (none)) else (none)) else (none)) else (none)) = some r := by first | (rw [hy144]; with_reducible exact H) | (have H2_ := (Option.bind_some _ _).symm.trans H; rw [hy144]; with_reducible exact H2_) | (have H2_ := (Option.bind_some _ _).symm.trans H; with_reducible exact H2_) | with_reducible exact H | (rw [hy144]; exact H) | exact H
                                            have Ny144 := Aside0.mk hy144
                                            clear hy144
                                            by_cases c51 : 0 ≤ x14_6
                                            · rw [if_pos c51] at H
                                              have c51b0 : decide (0 ≤ x14_6) = true := decide_eq_true c51
                                              clear c51
                                              by_cases c52 : x14_6 < (l0.length : Int)
                                              · rw [if_pos c52] at H
                                                have c52b0 : decide (x14_6 < (l0.length : Int)) = true := decide_eq_true c52
                                                clear c52
                                                by_cases c53 : 0 ≤ x12_5
                                                · rw [if_pos c53] at H
                                                  have c53b0 := eq_true c53
                                                  have c53b1 : decide (0 ≤ x12_5) = true := decide_eq_true c53
                                                  clear c53
                                                  by_cases c54 : x12_5 ≤ ((rd_L1 l0 x14_6).length : Int)
                                                  · rw [if_pos c54] at H
                                                    have c54b0 := eq_true c54
                                                    have c54b1 : decide (x12_5 ≤ ((rd_L1 l0 x14_6).length : Int)) = true := decide_eq_true c54
                                                    clear c54
                                                    by_cases c55 : y144.length + ((rd_L1 l0 x14_6).take (x12_5 : Int).toNat).length < 140737488355328
                                                    · rw [if_pos c55] at H
                                                      have LMc55 := Aside0.mk c55
                                                      clear c55
                                                      obtain ⟨y149, hy149⟩ : ∃ y_ : List Int, y_ = (y144 ++ ((rd_L1 l0 x14_6).take (x12_5 : Int).toNat)) := ⟨_, rfl⟩
                                                      replace H : (if 0 ≤ (wrap64 (x12_5 + 1)) then (if (wrap64 (x12_5 + 1)) ≤ ((rd_L1 l0 x14_6).length : Int) then (if y149.length + ((rd_L1 l0 x14_6).drop ((wrap64 (x12_5 + 1)) : Int).toNat).length < 140737488355328 then (if x13_6.length < 5864062014805 then (culletlaw10_MatrixDeterminant.l1 k6 l0 l1 t128 t123 x11_5 x12_5 (x13_6 ++ [(y149 ++ ((rd_L1 l0 x14_6).drop ((wrap64 (x12_5 + 1)) : Int).toNat))]) (wrap64 (x14_6 + 1))) else (none)) else (none)) else (none)) else (none)) = some r := by first | (rw [hy149]; with_reducible exact H) | (have H2_ := (Option.bind_some _ _).symm.trans H; rw [hy149]; with_reducible exact H2_) | (have H2_ := (Option.bind_some _ _).symm.trans H; with_reducible exact H2_) | with_reducible exact H | (rw [hy149]; exact H) | exact H
                                                      have Ny149 := Aside0.mk hy149
                                                      clear hy149
                                                      obtain ⟨ji56, hji56⟩ : ∃ j_ : Int, (wrap64 (x12_5 + 1)) = j_ := ⟨_, rfl⟩
                                                      replace H : (if 0 ≤ (ji56) then (if (ji56) ≤ ((rd_L1 l0 x14_6).length : Int) then (if y149.length + ((rd_L1 l0 x14_6).drop ((ji56) : Int).toNat).length < 140737488355328 then (if x13_6.length < 5864062014805 then (culletlaw10_MatrixDeterminant.l1 k6 l0 l1 t128 t123 x11_5 x12_5 (x13_6 ++ [(y149 ++ ((rd_L1 l0 x14_6).drop ((ji56) : Int).toNat))]) (wrap64 (x14_6 + 1))) else (none)) else (none)) else (none)) else (none)) = some r := by first | (rw [hji56] at H; exact H) | (simp only [hji56] at H ⊢; exact H)
                                                      have hji56w : (IntKind.i64.wrap (x12_5 + 1)) = ji56 := (i64_w _).trans hji56
                                                      by_cases c57 : 0 ≤ (ji56)
                                                      · rw [if_pos c57] at H
                                                        have c57b0 := eq_true c57
                                                        have c57b1 : decide (0 ≤ (ji56)) = true := decide_eq_true c57
                                                        clear c57
                                                        by_cases c58 : (ji56) ≤ ((rd_L1 l0 x14_6).length : Int)
                                                        · rw [if_pos c58] at H
                                                          have c58b0 := eq_true c58
                                                          have c58b1 : decide ((ji56) ≤ ((rd_L1 l0 x14_6).length : Int)) = true := decide_eq_true c58
                                                          clear c58
                                                          by_cases c59 : y149.length + ((rd_L1 l0 x14_6).drop ((ji56) : Int).toNat).length < 140737488355328
                                                          · rw [if_pos c59] at H
                                                            have LMc59 := Aside0.mk c59
                                                            clear c59
                                                            obtain ⟨y154, hy154⟩ : ∃ y_ : List Int, y_ = (y149 ++ ((rd_L1 l0 x14_6).drop ((ji56) : Int).toNat)) := ⟨_, rfl⟩
                                                            replace H : (if x13_6.length < 5864062014805 then (culletlaw10_MatrixDeterminant.l1 k6 l0 l1 t128 t123 x11_5 x12_5 (x13_6 ++ [y154]) (wrap64 (x14_6 + 1))) else (none)) = some r := by first | (rw [hy154]; with_reducible exact H) | (have H2_ := (Option.bind_some _ _).symm.trans H; rw [hy154]; with_reducible exact H2_) | (have H2_ := (Option.bind_some _ _).symm.trans H; with_reducible exact H2_) | with_reducible exact H | (rw [hy154]; exact H) | exact H
                                                            have Ny154 := Aside0.mk hy154
                                                            clear hy154
                                                            by_cases c60 : x13_6.length < 5864062014805
                                                            · rw [if_pos c60] at H
                                                              have LMc60 := Aside0.mk c60
                                                              clear c60
                                                              obtain ⟨y157, hy157⟩ : ∃ y_ : List (List Int), y_ = (x13_6 ++ [y154]) := ⟨_, rfl⟩
                                                              replace H : (culletlaw10_MatrixDeterminant.l1 k6 l0 l1 t128 t123 x11_5 x12_5 y157 (wrap64 (x14_6 + 1))) = some r := by first | (rw [hy157]; with_reducible exact H) | (have H2_ := (Option.bind_some _ _).symm.trans H; rw [hy157]; with_reducible exact H2_) | (have H2_ := (Option.bind_some _ _).symm.trans H; with_reducible exact H2_) | with_reducible exact H | (rw [hy157]; exact H) | exact H
                                                              have Ny157 := Aside0.mk hy157
                                                              clear hy157
                                                              have H' := Aside0.mk H
                                                              clear H
                                                              go_wp2_with (first | ((with_reducible refine gate_dst (N := 98) rfl ?_); (try (refine gate_guard (by rfl) ?_; dsimp only)); refine Kd.R_lit (Kd.int .u8) _ 5 ?hg (N := 98) ?hd (xs := ([] : List Int)) (inner := []) (ok := fun _ => True) (okp := fun _ => True) ?hr ?hp (fun _ hk => hk) trivial (Below.refl _ _) (Nat.le_refl _) (by simp) ?_; (case hd => rfl); (case hg => rfl); (case hr => first | (go_simp; done) | (go_simp; rfl)); (case hp => exact (Reps.none _ _)); intro v145 w61 ho62 hb hg_ hnew_; clear hg_ hnew_; (first | rw [← Ny144.out] at ho62 | (simp only [Int.reduceToNat] at ho62; rw [← Ny144.out] at ho62)); have n0_ := Aside0.mk (Kd.N_elder' (by (with_reducible repeat (first | apply Kd.N_alloc | apply Kd.N_drewN | apply Kd.N_drew)); exact HO_13.out) (Kd.R_base ho62) hb); have n1_ := Aside0.mk (Kd.R_lower ho62 (below_size (by repeat (first | (with_reducible first | exact HB.out | apply below_alloc | apply pw_below_drewN | apply below_drew1) | exact HB.out)))); have n2_ := Aside0.mk (below_step (by repeat (first | (with_reducible first | exact HB.out | apply below_alloc | apply pw_below_drewN | apply below_drew1) | exact HB.out)) hb); clear HO_13; clear HB; have HO_13 := n0_; have HO146 := n1_; have HB := n2_; clear n0_ n1_ n2_; clear hb ho62; have p147 : 0 ≤ (x14_6 : Int) := of_decide_eq_true (by first | (with_reducible assumption) | assumption); have q147 : x14_6 < (l0.length : Int) := of_decide_eq_true (by first | (with_reducible assumption) | assumption); obtain ⟨ad147, A147_0, c147_0, e147, hx147_0, hl147_0, hi147_0⟩ := at_L1 HR0.out x14_6 p147 q147; cases e147; replace hx147_0 := (HB.out.cell (World.block_lt_of_cell? w _ hx147_0)).trans hx147_0; have HR147_0 := Aside0.mk hi147_0; have HC147_0 := Aside0.mk hl147_0; clear hi147_0 hl147_0; replace p147 := eq_true p147; replace q147 := eq_true q147; obtain ⟨i063, hi063, _, hsz63, _⟩ := info_parts info5; obtain ⟨hcut63, hA63, hC63⟩ := print_take_of (P := Try.prog) (Value.int .u8) 0 31 5 .i64 Try.underlying31 hi063 hsz63 A147_0 c147_0 (rd_L1 l0 x14_6) x12_5 (of_decide_eq_true (by first | (with_reducible assumption) | assumption)) (of_decide_eq_true (by first | (with_reducible assumption) | assumption)) HC147_0.out; have HR148 := Aside0.mk (Kd.C_of_reads (h1 := fun _ => rfl) (hA63 _ (Kd.reads_of_C HR147_0.out))); have HC148 := Aside0.mk hC63; clear hA63 hC63 hi063 hsz63) | ((with_reducible refine gate_builtin (b := .append) (xs := #[.tmp 98, .tmp 104]) rfl ?_); (try (refine gate_guard (by rfl) ?_; dsimp only)); at_builtin; refine Kd.R_append_rows (Kd.int .u8) (w0 := w) w.heap.size rfl (.tmp 98) (.tmp 104) 31 5 (.int .u8 0) 1 rfl Try.underlying31 info5 rfl (by decide) (by omega) v145 y144 ((rd_L1 l0 x14_6).take (x12_5 : Int).toNat) _ _ _ (fun _ => True) (fun _ => False) rfl rfl ?aO ?aR (fun _ _ h => h) (fun _ h => h.elim) ?aF ?aB ?aS ?aL ?_; (case aR => first | (rw (occs := .pos [1]) [← show ((rd_L1 l0 x14_6).take (x12_5 : Int).toNat).length = x12_5.toNat from (by rw [List.length_take]; have h_ : (x12_5 : Int) ≤ ((rd_L1 l0 x14_6).length : Int) := of_decide_eq_true (by first | (with_reducible assumption) | assumption); omega)]; (repeat (first | exact (Kd.C_below HR148.out HB.out) | (with_reducible refine Kd.C_alloc ?_ _) | (with_reducible refine Kd.C_drewN ?_ _) | (with_reducible refine Kd.C_drew ?_))); done) | (repeat (first | exact (Kd.C_below HR148.out HB.out) | (with_reducible refine Kd.C_alloc ?_ _) | (with_reducible refine Kd.C_drewN ?_ _) | (with_reducible refine Kd.C_drew ?_)))); (case aB => exact (by repeat (first | (with_reducible first | exact HB.out | apply below_alloc | apply pw_below_drewN | apply below_drew1) | exact HB.out))); (case aF => exact (fun _ _ => trivial)); (case aO => exact (by (with_reducible repeat (first | apply Kd.R_alloc | apply Kd.R_drewN | apply Kd.R_drew)); exact HO146.out)); (case aS => exact (below_size (by repeat (first | (with_reducible first | exact HB.out | apply below_alloc | apply pw_below_drewN | apply below_drew1) | exact HB.out)))); (case aL => have := LMc55.out; have hlx_ := (show ((rd_L1 l0 x14_6).take (x12_5 : Int).toNat).length = x12_5.toNat from (by rw [List.length_take]; have h_ : (x12_5 : Int) ≤ ((rd_L1 l0 x14_6).length : Int) := of_decide_eq_true (by first | (with_reducible assumption) | assumption); omega)); omega); intro v150 w64 ho hb hg hat; rw [← Ny149.out] at ho; have n0_ := Aside0.mk (Kd.N_afterv (ok := (fun _ => True)) (by (with_reducible repeat (first | apply Kd.N_alloc | apply Kd.N_drewN | apply Kd.N_drew)); exact HO_13.out) hg hat); have n1_ := Aside0.mk (hb); have n2_ := Aside0.mk (ho); clear HO_13; clear HB; clear HO146; have HO_13 := n0_; have HB := n1_; have HO151 := n2_; clear n0_ n1_ n2_; clear ho hb hg hat; have p152 : 0 ≤ (x14_6 : Int) := of_decide_eq_true (by first | (with_reducible assumption) | assumption); have q152 : x14_6 < (l0.length : Int) := of_decide_eq_true (by first | (with_reducible assumption) | assumption); obtain ⟨ad152, A152_0, c152_0, e152, hx152_0, hl152_0, hi152_0⟩ := at_L1 HR0.out x14_6 p152 q152; obtain rfl : ad147 = ad152 := (by injection e152); replace hx152_0 := (HB.out.cell (World.block_lt_of_cell? w _ hx152_0)).trans hx152_0; have HR152_0 := Aside0.mk hi152_0; have HC152_0 := Aside0.mk hl152_0; clear hi152_0 hl152_0; replace p152 := eq_true p152; replace q152 := eq_true q152; obtain ⟨i065, hi065, _, hsz65, _⟩ := info_parts info5; obtain ⟨A65, hcut65, hA65, hC65⟩ := print_drop_of (P := Try.prog) (Value.int .u8) 0 31 5 .i64 Try.underlying31 hi065 hsz65 A152_0 c152_0 (rd_L1 l0 x14_6) (ji56) (of_decide_eq_true (by first | (with_reducible assumption) | assumption)) (of_decide_eq_true (by first | (with_reducible assumption) | assumption)) HC152_0.out; have HR153 := Aside0.mk (Kd.C_of_reads (h1 := fun _ => rfl) (hA65 _ (Kd.reads_of_C HR152_0.out))); have HC153 := Aside0.mk hC65; clear hA65 hC65 hi065 hsz65) | ((with_reducible refine gate_builtin (b := .append) (xs := #[.tmp 107, .tmp 114]) rfl ?_); (try (refine gate_guard (by rfl) ?_; dsimp only)); at_builtin; refine Kd.R_append_rows (Kd.int .u8) (w0 := w) w.heap.size rfl (.tmp 107) (.tmp 114) 31 5 (.int .u8 0) 1 rfl Try.underlying31 info5 rfl (by decide) (by omega) v150 y149 ((rd_L1 l0 x14_6).drop ((ji56) : Int).toNat) _ _ _ (fun _ => True) (fun _ => False) rfl rfl ?aO ?aR (fun _ _ h => h) (fun _ h => h.elim) ?aF ?aB ?aS ?aL ?_; (case aR => first | (rw (occs := .pos [1]) [← show ((rd_L1 l0 x14_6).drop ((ji56) : Int).toNat).length = ((rd_L1 l0 x14_6).length - (ji56).toNat) from List.length_drop]; (repeat (first | exact (Kd.C_below HR153.out HB.out) | (with_reducible refine Kd.C_alloc ?_ _) | (with_reducible refine Kd.C_drewN ?_ _) | (with_reducible refine Kd.C_drew ?_))); done) | (repeat (first | exact (Kd.C_below HR153.out HB.out) | (with_reducible refine Kd.C_alloc ?_ _) | (with_reducible refine Kd.C_drewN ?_ _) | (with_reducible refine Kd.C_drew ?_)))); (case aB => exact (by repeat (first | (with_reducible first | exact HB.out | apply below_alloc | apply pw_below_drewN | apply below_drew1) | exact HB.out))); (case aF => exact (fun _ _ => trivial)); (case aO => exact (by (with_reducible repeat (first | apply Kd.R_alloc | apply Kd.R_drewN | apply Kd.R_drew)); exact HO151.out)); (case aS => exact (below_size (by repeat (first | (with_reducible first | exact HB.out | apply below_alloc | apply pw_below_drewN | apply below_drew1) | exact HB.out)))); (case aL => have := LMc59.out; have hlx_ := (show ((rd_L1 l0 x14_6).drop ((ji56) : Int).toNat).length = ((rd_L1 l0 x14_6).length - (ji56).toNat) from List.length_drop); omega); intro v155 w66 ho hb hg hat; rw [← Ny154.out] at ho; have n0_ := Aside0.mk (Kd.N_afterv (ok := (fun _ => True)) (by (with_reducible repeat (first | apply Kd.N_alloc | apply Kd.N_drewN | apply Kd.N_drew)); exact HO_13.out) hg hat); have n1_ := Aside0.mk (hb); have n2_ := Aside0.mk (ho); clear HO_13; clear HB; clear HO151; have HO_13 := n0_; have HB := n1_; have HO156 := n2_; clear n0_ n1_ n2_; clear ho hb hg hat; obtain ⟨Ao68, co68, eo68⟩ := Kd.R_slice HO156.out; subst eo68) | ((with_reducible refine gate_builtin (b := .append) (xs := #[.tmp 106, .tmp 116]) rfl ?_); (try (refine gate_guard (by rfl) ?_; dsimp only)); at_builtin; refine Kd.N_append (Kd.slice 5 (Kd.int .u8)) (w0 := w) w.heap.size rfl (.tmp 106) (.tmp 116) 22 31 (.slice none 0 0) 24 rfl Try.underlying22 info31 rfl (by decide) (by omega) u13 x13_6 y154 [.slice Ao68 y154.length co68] (fun _ => True) (fun k_ => ((fun _ => True)) k_ ∧ some k_ ≠ (u13 : Value).ownBlock) rfl rfl ?aP (fun _ hk => hk) ?aF ?aO ?aB ?aS ?aL ?_; (case aP => exact (Kd.FK_slice_mk (Kd.R_reads' (Kd.R_mono (ok' := (fun k_ => ((fun _ => True)) k_ ∧ some k_ ≠ (u13 : Value).ownBlock)) (Kd.R_apart' (HO156.out) (Kd.N_typed HO_13.out) (by decide)) (fun k_ hk => ⟨trivial, hk.2⟩))).2.1 (Kd.R_F (Kd.R_mono (ok' := (fun k_ => ((fun _ => True)) k_ ∧ some k_ ≠ (u13 : Value).ownBlock)) (Kd.R_apart' (HO156.out) (Kd.N_typed HO_13.out) (by decide)) (fun k_ hk => ⟨trivial, hk.2⟩))))); (case aB => exact (by repeat (first | (with_reducible first | exact HB.out | apply below_alloc | apply pw_below_drewN | apply below_drew1) | exact HB.out))); (case aF => exact (fun _ _ => trivial)); (case aO => exact (by (with_reducible repeat (first | apply Kd.N_alloc | apply Kd.N_drewN | apply Kd.N_drew)); exact Kd.N_mono HO_13.out (fun _ hk => trivial))); (case aS => exact (below_size (by repeat (first | (with_reducible first | exact HB.out | apply below_alloc | apply pw_below_drewN | apply below_drew1) | exact HB.out)))); (case aL => have := LMc60.out; omega); intro v158 w67 ho hb hg hat; rw [← Ny157.out] at ho; have n0_ := Aside0.mk (hb); have n1_ := Aside0.mk (ho); clear HB; clear HO_13; clear HO156; have HB := n0_; have HO159 := n1_; clear n0_ n1_; clear ho hb hg hat))
                                                              go_roundg k6
                                                              case measure => have := HJ3.out; have := HJ17.out; have := HJ26.out; have := HJ36.out; have := HK5.out; have := HK6.out; omega
                                                              case rel => exact ⟨(y157), (wrap64 (x14_6 + 1)), (by first | rfl | (simp; done) | (simp [*]; done)), H', ⟨by have := HJ3.out; have := HJ17.out; have := HJ26.out; have := HJ36.out; have := HK5.out; have := HK6.out; omega⟩, ⟨by (with_reducible repeat (first | apply Kd.N_alloc | apply Kd.N_drewN | apply Kd.N_drew)); exact HO159.out⟩, ⟨by repeat (first | (with_reducible first | exact HB.out | apply below_alloc | apply pw_below_drewN | apply below_drew1) | exact HB.out)⟩⟩
                                                            · rw [if_neg c60] at H
                                                              exact absurd H (by simp)
                                                          · rw [if_neg c59] at H
                                                            exact absurd H (by simp)
                                                        · rw [if_neg c58] at H
                                                          exact absurd H (by simp)
                                                      · rw [if_neg c57] at H
                                                        exact absurd H (by simp)
                                                    · rw [if_neg c55] at H
                                                      exact absurd H (by simp)
                                                  · rw [if_neg c54] at H
                                                    exact absurd H (by simp)
                                                · rw [if_neg c53] at H
                                                  exact absurd H (by simp)
                                              · rw [if_neg c52] at H
                                                exact absurd H (by simp)
                                            · rw [if_neg c51] at H
                                              exact absurd H (by simp)
                                          · rw [if_neg c50] at H
                                            have c50b0 : decide (x14_6 < t123) = false := decide_eq_false c50
                                            clear c50
                                            replace H := Option.bind_eq_some_iff.mp H
                                            obtain ⟨⟨t160, t161⟩, A690, H⟩ := H
                                            replace H : (if t161 = 0 then (if 0 < (l0.length : Int) then (if 0 ≤ x12_5 then (if x12_5 < ((rd_L1 l0 0).length : Int) then ((gf8_Mul.f k6 (rd (rd_L1 l0 0) x12_5) t160).bind fun t164 => (culletlaw10_MatrixDeterminant.l0 k6 l0 l1 t128 t123 (Go.bits .xor .u8 x11_5 t164) (wrap64 (x12_5 + 1)))) else (none)) else (none)) else (none)) else (some false)) = some r := H
                                            have A69 := Aside0.mk A690
                                            clear A690
                                            by_cases c70 : t161 = 0
                                            · rw [if_pos c70] at H
                                              have c70b0 : (t161 == 0) = true := beq_iff_eq.mpr c70
                                              have c70b1 : (t161 != 0) = false := bne_eq_false_iff_eq.mpr c70
                                              clear c70
                                              by_cases c71 : 0 < (l0.length : Int)
                                              · rw [if_pos c71] at H
                                                have c71b0 : decide (0 < (l0.length : Int)) = true := decide_eq_true c71
                                                have c71b1 : decide (0 < l0.length) = true := decide_eq_true (by omega)
                                                clear c71
                                                by_cases c72 : 0 ≤ x12_5
                                                · rw [if_pos c72] at H
                                                  have c72b0 : decide (0 ≤ x12_5) = true := decide_eq_true c72
                                                  clear c72
                                                  by_cases c73 : x12_5 < ((rd_L1 l0 0).length : Int)
                                                  · rw [if_pos c73] at H
                                                    have c73b0 : decide (x12_5 < ((rd_L1 l0 0).length : Int)) = true := decide_eq_true c73
                                                    clear c73
                                                    replace H := Option.bind_eq_some_iff.mp H
                                                    obtain ⟨t164, A740, H⟩ := H
                                                    replace H : (culletlaw10_MatrixDeterminant.l0 k6 l0 l1 t128 t123 (Go.bits .xor .u8 x11_5 t164) (wrap64 (x12_5 + 1))) = some r := H
                                                    have A74 := Aside0.mk A740
                                                    clear A740
                                                    have H' := Aside0.mk H
                                                    clear H
                                                    obtain ⟨Ao75, co75, eo75⟩ := Kd.N_slice HO_13.out
                                                    subst eo75
                                                    go_wp2_with (first | ((with_reducible refine gate_callee (f := 18) rfl ?_); refine goesL_ (some 120) rfl rfl Try.func18 (by kernel_rfl) rfl #[.slice Ao75 x13_6.length co75] rfl (by (try simp only [List.map_toArray, List.map_cons, List.map_nil]); first | done | rfl | (simp only [tb_wrap8]; done) | (simp only [tb_wrap8]; rfl) | (simp only [List.length_drop, List.length_take]; rfl)) ?_; (with_reducible refine (matrix_Det.calls _ _ x13_6 t160 t161 _ ?side1 ?side2 A69.out).mono ?_); (case side1 => repeat (first | exact (Kd.N_reads' HO_13.out).2.2 | (with_reducible refine Kd.C_alloc ?_ _) | (with_reducible refine Kd.C_drewN ?_ _) | (with_reducible refine Kd.C_drew ?_))); (case side2 => exact (Kd.N_reads' HO_13.out).2.1); rintro e w76 ⟨rfl, hb⟩; refine ⟨_, rfl, ?_⟩; have n0_ := Aside0.mk (Kd.N_below (by (with_reducible repeat (first | apply Kd.N_alloc | apply Kd.N_drewN | apply Kd.N_drew)); exact HO_13.out) hb); have n1_ := Aside0.mk (below_step (by repeat (first | (with_reducible first | exact HB.out | apply below_alloc | apply pw_below_drewN | apply below_drew1) | exact HB.out)) hb); clear HO_13; clear HB; have HO_13 := n0_; have HB := n1_; clear n0_ n1_; (try clear hb); (try clear hb2); (try clear hk); (try clear hi); have p162 : 0 ≤ (0 : Int) := (by omega); have q162 : 0 < (l0.length : Int) := of_decide_eq_true (by first | (with_reducible assumption) | assumption); obtain ⟨ad162, A162_0, c162_0, e162, hx162_0, hl162_0, hi162_0⟩ := at_L1 HR0.out 0 p162 q162; cases e162; have qi162 : (0 < l0.length) = True := eq_true (by omega); (try rw [show ((0 : Int)).toNat = 0 from rfl] at hx162_0); (try rw [Addr.add_zero'] at hx162_0); replace hx162_0 := (HB.out.cell (World.block_lt_of_cell? w _ hx162_0)).trans hx162_0; have HR162_0 := Aside0.mk hi162_0; have HC162_0 := Aside0.mk hl162_0; clear hi162_0 hl162_0; replace p162 := eq_true p162; replace q162 := eq_true q162; have p163 : 0 ≤ (x12_5 : Int) := of_decide_eq_true (by first | (with_reducible assumption) | assumption); have q163 : x12_5 < ((rd_L1 l0 0).length : Int) := of_decide_eq_true (by first | (with_reducible assumption) | assumption); obtain ⟨ad163, e163, hx163_0⟩ := Kd.at_int HR162_0.out x12_5 p163 q163; cases e163; replace hx163_0 := (HB.out.cell (World.block_lt_of_cell? w _ hx163_0)).trans hx163_0; replace p163 := eq_true p163; replace q163 := eq_true q163) | ((with_reducible refine gate_callee (f := 17) rfl ?_); refine goesL_ (some 133) rfl rfl Try.func17 (by kernel_rfl) rfl #[.int .u8 (rd (rd_L1 l0 0) x12_5), .int .u8 t160] rfl (by (try simp only [List.map_toArray, List.map_cons, List.map_nil]); first | done | rfl | (simp only [tb_wrap8]; done) | (simp only [tb_wrap8]; rfl) | (simp only [List.length_drop, List.length_take]; rfl)) ?_; (with_reducible refine (gf8_Mul.calls k6 (rd (rd_L1 l0 0) x12_5) t160 t164 _ A74.out).mono ?_); rintro e w' ⟨rfl, ⟨nd, rfl⟩⟩; refine ⟨_, rfl, ?_⟩))
                                                    go_roundg k6
                                                    case measure => have := HJ3.out; have := HJ17.out; have := HJ26.out; have := HJ36.out; have := HK5.out; have := HK6.out; omega
                                                    case rel => exact ⟨(Go.bits .xor .u8 x11_5 t164), (wrap64 (x12_5 + 1)), (by first | rfl | (simp; done) | (simp [*]; done)), (by first | rfl | (simp; done) | (simp [*]; done)), H', ⟨by have := HJ3.out; have := HJ17.out; have := HJ26.out; have := HJ36.out; have := HK5.out; have := HK6.out; omega⟩, ⟨by repeat (first | (with_reducible first | exact HB.out | apply below_alloc | apply pw_below_drewN | apply below_drew1) | exact HB.out)⟩⟩
                                                  · rw [if_neg c73] at H
                                                    exact absurd H (by simp)
                                                · rw [if_neg c72] at H
                                                  exact absurd H (by simp)
                                              · rw [if_neg c71] at H
                                                exact absurd H (by simp)
                                            · rw [if_neg c70] at H
                                              have c70b0 : (t161 == 0) = false := beq_eq_false_iff_ne.mpr c70
                                              have c70b1 : (t161 != 0) = true := bne_iff_ne.mpr c70
                                              obtain rfl := Option.some.inj H
                                              obtain ⟨Ao77, co77, eo77⟩ := Kd.N_slice HO_13.out
                                              subst eo77
                                              go_wp2_with (first | ((with_reducible refine gate_callee (f := 18) rfl ?_); refine goesL_ (some 120) rfl rfl Try.func18 (by kernel_rfl) rfl #[.slice Ao77 x13_6.length co77] rfl (by (try simp only [List.map_toArray, List.map_cons, List.map_nil]); first | done | rfl | (simp only [tb_wrap8]; done) | (simp only [tb_wrap8]; rfl) | (simp only [List.length_drop, List.length_take]; rfl)) ?_; (with_reducible refine (matrix_Det.calls _ _ x13_6 t160 t161 _ ?side1 ?side2 A69.out).mono ?_); (case side1 => repeat (first | exact (Kd.N_reads' HO_13.out).2.2 | (with_reducible refine Kd.C_alloc ?_ _) | (with_reducible refine Kd.C_drewN ?_ _) | (with_reducible refine Kd.C_drew ?_))); (case side2 => exact (Kd.N_reads' HO_13.out).2.1); rintro e w78 ⟨rfl, hb⟩; refine ⟨_, rfl, ?_⟩; have n0_ := Aside0.mk (Kd.N_below (by (with_reducible repeat (first | apply Kd.N_alloc | apply Kd.N_drewN | apply Kd.N_drew)); exact HO_13.out) hb); have n1_ := Aside0.mk (below_step (by repeat (first | (with_reducible first | exact HB.out | apply below_alloc | apply pw_below_drewN | apply below_drew1) | exact HB.out)) hb); clear HO_13; clear HB; have HO_13 := n0_; have HB := n1_; clear n0_ n1_; (try clear hb); (try clear hb2); (try clear hk); (try clear hi)))
                                              go_ret
                                              exact ⟨by first | rfl | (simp [errW_none, errW_some] <;> rfl) | (simp [*, errW_none, errW_some] <;> rfl), by repeat (first | (with_reducible first | exact HB.out | apply below_alloc | apply pw_below_drewN | apply below_drew1) | exact HB.out)⟩
                                    · rw [if_neg c47] at H
                                      exact absurd H (by simp)
                                  · rw [if_neg c46] at H
                                    exact absurd H (by simp)
                                · rw [if_neg c45] at H
                                  have c45b0 : decide (x12_5 < t123) = false := decide_eq_false c45
                                  clear c45
                                  by_cases c79 : x11_5 = t128
                                  · rw [if_pos c79] at H
                                    have c79b0 : (x11_5 == t128) = true := beq_iff_eq.mpr c79
                                    have c79b1 : (x11_5 != t128) = false := bne_eq_false_iff_eq.mpr c79
                                    clear c79
                                    have HC80 := Aside0.mk H
                                    clear H
                                    go_upto_region 32 with (fail)
                                    go_cut [149] (fun v149 wc => ∃ (kq : Nat) (x149_79 : Bool), v149 = .bool x149_79 ∧ Aside0 (culletlaw10_MatrixDeterminant.j6 kq l0 l1 t128 x149_79 = some r) ∧ Aside0 (kq ≤ k5) ∧ Aside0 (Below w.heap.size w wc))
                                    case first =>
                                      have H := HC80.out
                                      clear HC80
                                      replace H := Option.bind_eq_some_iff.mp H
                                      obtain ⟨t165, A810, H⟩ := H
                                      replace H : (if t165 = t123 then (if 0 < (l1.length : Int) then (culletlaw10_MatrixDeterminant.j6 k5 l0 l1 t128 (((rd_L1 l1 0).length : Int) != t123)) else (none)) else (culletlaw10_MatrixDeterminant.j6 k5 l0 l1 t128 true)) = some r := H
                                      have A81 := Aside0.mk A810
                                      clear A810
                                      by_cases c82 : t165 = t123
                                      · rw [if_pos c82] at H
                                        have c82b0 : (t165 == t123) = true := beq_iff_eq.mpr c82
                                        have c82b1 : (t165 != t123) = false := bne_eq_false_iff_eq.mpr c82
                                        clear c82
                                        (first | rw [c82b0] | (simp only [i64_w, i32_w]; rw [c82b0]) | skip)
                                        by_cases c83 : 0 < (l1.length : Int)
                                        · rw [if_pos c83] at H
                                          have c83b0 : decide (0 < (l1.length : Int)) = true := decide_eq_true c83
                                          have c83b1 : decide (0 < l1.length) = true := decide_eq_true (by omega)
                                          clear c83
                                          have H' := Aside0.mk H
                                          clear H
                                          go_wp2_with (first | ((with_reducible refine gate_callee (f := 19) rfl ?_); refine goesL_ (some 139) rfl rfl Try.func19 (by kernel_rfl) rfl #[.slice A1 l1.length c1] rfl (by (try simp only [List.map_toArray, List.map_cons, List.map_nil]); first | done | rfl | (simp only [tb_wrap8]; done) | (simp only [tb_wrap8]; rfl) | (simp only [List.length_drop, List.length_take]; rfl)) ?_; (with_reducible refine (culletlaw10_side.calls k5 _ _ l1 t165 _ ?side1 ?side2 A81.out).mono ?_); (case side1 => repeat (first | exact (Kd.C_below HR1.out HB.out) | (with_reducible refine Kd.C_alloc ?_ _) | (with_reducible refine Kd.C_drewN ?_ _) | (with_reducible refine Kd.C_drew ?_))); (case side2 => exact HC1.out); rintro e w' ⟨rfl, ⟨nd, rfl⟩⟩; refine ⟨_, rfl, ?_⟩; have p166 : 0 ≤ (0 : Int) := (by omega); have q166 : 0 < (l1.length : Int) := of_decide_eq_true (by first | (with_reducible assumption) | assumption); obtain ⟨ad166, A166_0, c166_0, e166, hx166_0, hl166_0, hi166_0⟩ := at_L1 HR1.out 0 p166 q166; cases e166; have qi166 : (0 < l1.length) = True := eq_true (by omega); (try rw [show ((0 : Int)).toNat = 0 from rfl] at hx166_0); (try rw [Addr.add_zero'] at hx166_0); replace hx166_0 := (HB.out.cell (World.block_lt_of_cell? w _ hx166_0)).trans hx166_0; have HR166_0 := Aside0.mk hi166_0; have HC166_0 := Aside0.mk hl166_0; clear hi166_0 hl166_0; replace p166 := eq_true p166; replace q166 := eq_true q166))
                                          go_meet
                                          case rel => exact ⟨_, ((((rd_L1 l1 0).length : Int) != t123)), (by first | rfl | (simp; done) | (simp [*]; done)), H', ⟨by have := HJ3.out; have := HJ17.out; have := HJ26.out; have := HJ36.out; have := HK5.out; first | omega | exact Nat.le_refl _⟩, ⟨by repeat (first | (with_reducible first | exact HB.out | apply below_alloc | apply pw_below_drewN | apply below_drew1) | exact HB.out)⟩⟩
                                        · rw [if_neg c83] at H
                                          exact absurd H (by simp)
                                      · rw [if_neg c82] at H
                                        have c82b0 : (t165 == t123) = false := beq_eq_false_iff_ne.mpr c82
                                        have c82b1 : (t165 != t123) = true := bne_iff_ne.mpr c82
                                        (first | rw [c82b0] | (simp only [i64_w, i32_w]; rw [c82b0]) | skip)
                                        have H' := Aside0.mk H
                                        clear H
                                        go_wp2_with (first | ((with_reducible refine gate_callee (f := 19) rfl ?_); refine goesL_ (some 139) rfl rfl Try.func19 (by kernel_rfl) rfl #[.slice A1 l1.length c1] rfl (by (try simp only [List.map_toArray, List.map_cons, List.map_nil]); first | done | rfl | (simp only [tb_wrap8]; done) | (simp only [tb_wrap8]; rfl) | (simp only [List.length_drop, List.length_take]; rfl)) ?_; (with_reducible refine (culletlaw10_side.calls k5 _ _ l1 t165 _ ?side1 ?side2 A81.out).mono ?_); (case side1 => repeat (first | exact (Kd.C_below HR1.out HB.out) | (with_reducible refine Kd.C_alloc ?_ _) | (with_reducible refine Kd.C_drewN ?_ _) | (with_reducible refine Kd.C_drew ?_))); (case side2 => exact HC1.out); rintro e w' ⟨rfl, ⟨nd, rfl⟩⟩; refine ⟨_, rfl, ?_⟩))
                                        go_meet
                                        case rel => exact ⟨_, (true), (by first | rfl | (simp; done) | (simp [*]; done)), H', ⟨by have := HJ3.out; have := HJ17.out; have := HJ26.out; have := HJ36.out; have := HK5.out; first | omega | exact Nat.le_refl _⟩, ⟨by repeat (first | (with_reducible first | exact HB.out | apply below_alloc | apply pw_below_drewN | apply below_drew1) | exact HB.out)⟩⟩
                                    case rest =>
                                      clear HC80
                                      try clear c1
                                      try clear p1
                                      try clear q1
                                      try clear hx1
                                      try clear qi1
                                      try clear c2
                                      try clear p2
                                      try clear c3
                                      try clear c4
                                      try clear c5
                                      try clear c6
                                      try clear p6
                                      try clear c7
                                      try clear c8
                                      try clear p8
                                      try clear c12
                                      try clear p12
                                      try clear q12
                                      try clear hx12
                                      try clear qi12
                                      try clear c13
                                      try clear p13
                                      try clear q13
                                      try clear hx13
                                      try clear qi13
                                      try clear c14
                                      try clear p14
                                      try clear q14
                                      try clear hx14
                                      try clear qi14
                                      try clear c15
                                      try clear c15b0
                                      try clear c15b1
                                      try clear p15
                                      try clear q15
                                      try clear hx15
                                      try clear c16
                                      try clear p16
                                      try clear q16
                                      try clear hx16
                                      try clear qi16
                                      try clear c17
                                      try clear c18
                                      try clear c19
                                      try clear c19b0
                                      try clear c19b1
                                      try clear c20
                                      try clear c20b0
                                      try clear c21
                                      try clear c21b0
                                      try clear c21b1
                                      try clear c22
                                      try clear c34
                                      try clear c34b0
                                      try clear c34b1
                                      try clear c35
                                      try clear c40
                                      try clear c40b0
                                      try clear c40b1
                                      try clear c41
                                      try clear c42
                                      try clear c42b0
                                      try clear c42b1
                                      try clear c43
                                      try clear c43b0
                                      try clear c43b1
                                      try clear c44
                                      try clear c44b0
                                      try clear c44b1
                                      try clear c45
                                      try clear c45b0
                                      try clear c46
                                      try clear c46b0
                                      try clear c46b1
                                      try clear c47
                                      try clear c47b0
                                      try clear c47b1
                                      try clear c50
                                      try clear c50b0
                                      try clear c51
                                      try clear c51b0
                                      try clear c52
                                      try clear c52b0
                                      try clear c53
                                      try clear c53b0
                                      try clear c53b1
                                      try clear c54
                                      try clear c54b0
                                      try clear c54b1
                                      try clear c55
                                      try clear c57
                                      try clear c57b0
                                      try clear c57b1
                                      try clear c58
                                      try clear c58b0
                                      try clear c58b1
                                      try clear c59
                                      try clear c60
                                      try clear p64
                                      try clear c70
                                      try clear c70b0
                                      try clear c70b1
                                      try clear c71
                                      try clear c71b0
                                      try clear c71b1
                                      try clear c72
                                      try clear c72b0
                                      try clear c73
                                      try clear c73b0
                                      try clear c79
                                      try clear c79b0
                                      try clear c79b1
                                      try clear c82
                                      try clear c82b0
                                      try clear c82b1
                                      try clear c83
                                      try clear c83b0
                                      try clear c83b1
                                      try clear hx124_0
                                      try clear hx139_0
                                      try clear hx140_0
                                      try clear hx147_0
                                      try clear hx152_0
                                      try clear hx162_0
                                      try clear hx163_0
                                      try clear hx166_0
                                      try clear p1
                                      try clear p12
                                      try clear p124
                                      try clear p13
                                      try clear p139
                                      try clear p14
                                      try clear p140
                                      try clear p147
                                      try clear p152
                                      try clear p162
                                      try clear p163
                                      try clear p166
                                      try clear p2
                                      try clear p8
                                      try clear q1
                                      try clear q12
                                      try clear q124
                                      try clear q13
                                      try clear q139
                                      try clear q14
                                      try clear q140
                                      try clear q147
                                      try clear q152
                                      try clear q162
                                      try clear q163
                                      try clear q166
                                      obtain ⟨kq, x149_79, rfl, HA, HJ79, HB⟩ := hcut
                                      cases kq with
                                      | zero => exact absurd HA.out (by simp [culletlaw10_MatrixDeterminant.j6])
                                      | succ kj79 =>
                                        have H := HA.out
                                        clear HA
                                        simp only [culletlaw10_MatrixDeterminant.j6] at H
                                        by_cases c84 : x149_79 = true
                                        · subst c84
                                          have H1 : (some true) = some r := by rw [if_pos rfl] at H; exact H
                                          clear H
                                          have H := H1
                                          clear H1
                                          obtain rfl := Option.some.inj H
                                          go_wp2
                                          go_ret
                                          exact ⟨by first | rfl | (simp [errW_none, errW_some] <;> rfl) | (simp [*, errW_none, errW_some] <;> rfl), by repeat (first | (with_reducible first | exact HB.out | apply below_alloc | apply pw_below_drewN | apply below_drew1) | exact HB.out)⟩
                                        · replace c84 := Bool.eq_false_iff.mpr c84
                                          subst c84
                                          have H1 : ((culletlaw10_twin.f l0).bind fun t167 => ((culletlaw10_twin.f l1).bind fun t170 => ((matrix_Mul.f kj79 t167 t170).bind fun bt173 => (if bt173.2 = 0 then ((culletlaw10_twin.f l1).bind fun t177 => ((matrix_Det.f t177).bind fun bt180 => ((matrix_Det.f bt173.1).bind fun bt182 => (if bt180.2 = 0 then (if bt182.2 = 0 then ((gf8_Mul.f kj79 t128 bt180.1).bind fun t184 => (some (bt182.1 == t184))) else (some false)) else (some false))))) else (some false))))) = some r := by rw [if_neg (show ¬ (false = true) by decide)] at H; exact H
                                          clear H
                                          have H := H1
                                          clear H1
                                          replace H := Option.bind_eq_some_iff.mp H
                                          obtain ⟨t167, A850, H⟩ := H
                                          replace H : ((culletlaw10_twin.f l1).bind fun t170 => ((matrix_Mul.f kj79 t167 t170).bind fun bt173 => (if bt173.2 = 0 then ((culletlaw10_twin.f l1).bind fun t177 => ((matrix_Det.f t177).bind fun bt180 => ((matrix_Det.f bt173.1).bind fun bt182 => (if bt180.2 = 0 then (if bt182.2 = 0 then ((gf8_Mul.f kj79 t128 bt180.1).bind fun t184 => (some (bt182.1 == t184))) else (some false)) else (some false))))) else (some false)))) = some r := H
                                          have A85 := Aside0.mk A850
                                          clear A850
                                          replace H := Option.bind_eq_some_iff.mp H
                                          obtain ⟨t170, A860, H⟩ := H
                                          replace H : ((matrix_Mul.f kj79 t167 t170).bind fun bt173 => (if bt173.2 = 0 then ((culletlaw10_twin.f l1).bind fun t177 => ((matrix_Det.f t177).bind fun bt180 => ((matrix_Det.f bt173.1).bind fun bt182 => (if bt180.2 = 0 then (if bt182.2 = 0 then ((gf8_Mul.f kj79 t128 bt180.1).bind fun t184 => (some (bt182.1 == t184))) else (some false)) else (some false))))) else (some false))) = some r := H
                                          have A86 := Aside0.mk A860
                                          clear A860
                                          replace H := Option.bind_eq_some_iff.mp H
                                          obtain ⟨⟨t173, t174⟩, A870, H⟩ := H
                                          replace H : (if t174 = 0 then ((culletlaw10_twin.f l1).bind fun t177 => ((matrix_Det.f t177).bind fun bt180 => ((matrix_Det.f t173).bind fun bt182 => (if bt180.2 = 0 then (if bt182.2 = 0 then ((gf8_Mul.f kj79 t128 bt180.1).bind fun t184 => (some (bt182.1 == t184))) else (some false)) else (some false))))) else (some false)) = some r := H
                                          have A87 := Aside0.mk A870
                                          clear A870
                                          by_cases c88 : t174 = 0
                                          · rw [if_pos c88] at H
                                            have c88b0 : (t174 == 0) = true := beq_iff_eq.mpr c88
                                            have c88b1 : (t174 != 0) = false := bne_eq_false_iff_eq.mpr c88
                                            clear c88
                                            replace H := Option.bind_eq_some_iff.mp H
                                            obtain ⟨t177, A890, H⟩ := H
                                            replace H : ((matrix_Det.f t177).bind fun bt180 => ((matrix_Det.f t173).bind fun bt182 => (if bt180.2 = 0 then (if bt182.2 = 0 then ((gf8_Mul.f kj79 t128 bt180.1).bind fun t184 => (some (bt182.1 == t184))) else (some false)) else (some false)))) = some r := H
                                            have A89 := Aside0.mk A890
                                            clear A890
                                            replace H := Option.bind_eq_some_iff.mp H
                                            obtain ⟨⟨t180, t181⟩, A900, H⟩ := H
                                            replace H : ((matrix_Det.f t173).bind fun bt182 => (if t181 = 0 then (if bt182.2 = 0 then ((gf8_Mul.f kj79 t128 t180).bind fun t184 => (some (bt182.1 == t184))) else (some false)) else (some false))) = some r := H
                                            have A90 := Aside0.mk A900
                                            clear A900
                                            replace H := Option.bind_eq_some_iff.mp H
                                            obtain ⟨⟨t182, t183⟩, A910, H⟩ := H
                                            replace H : (if t181 = 0 then (if t183 = 0 then ((gf8_Mul.f kj79 t128 t180).bind fun t184 => (some (t182 == t184))) else (some false)) else (some false)) = some r := H
                                            have A91 := Aside0.mk A910
                                            clear A910
                                            by_cases c92 : t181 = 0
                                            · rw [if_pos c92] at H
                                              have c92b0 : (t181 == 0) = true := beq_iff_eq.mpr c92
                                              have c92b1 : (t181 != 0) = false := bne_eq_false_iff_eq.mpr c92
                                              clear c92
                                              by_cases c93 : t183 = 0
                                              · rw [if_pos c93] at H
                                                have c93b0 : (t183 == 0) = true := beq_iff_eq.mpr c93
                                                have c93b1 : (t183 != 0) = false := bne_eq_false_iff_eq.mpr c93
                                                clear c93
                                                replace H := Option.bind_eq_some_iff.mp H
                                                obtain ⟨t184, A940, H⟩ := H
                                                replace H : (some (t182 == t184)) = some r := H
                                                have A94 := Aside0.mk A940
                                                clear A940
                                                obtain rfl := Option.some.inj H
                                                go_wp2_with (first | ((with_reducible refine gate_callee (f := 20) rfl ?_); refine goesL_ (some 152) rfl rfl Try.func20 (by kernel_rfl) rfl #[.slice A0 l0.length c0] rfl (by (try simp only [List.map_toArray, List.map_cons, List.map_nil]); first | done | rfl | (simp only [tb_wrap8]; done) | (simp only [tb_wrap8]; rfl) | (simp only [List.length_drop, List.length_take]; rfl)) ?_; (with_reducible refine (culletlaw10_twin.calls _ _ l0 t167 _ ?side1 ?side2 A85.out).mono ?_); (case side1 => repeat (first | exact (Kd.C_below HR0.out HB.out) | (with_reducible refine Kd.C_alloc ?_ _) | (with_reducible refine Kd.C_drewN ?_ _) | (with_reducible refine Kd.C_drew ?_))); (case side2 => exact HC0.out); rintro e w95 ⟨v168, rfl, ho0, hb⟩; refine ⟨_, rfl, ?_⟩; have n0_ := Aside0.mk (Kd.N_lower (Kd.N_mono (ok' := fun k_ => True) (Kd.S_N (Kd.S_bound ho0)) (fun k_ hk_ => trivial)) (below_size (by repeat (first | (with_reducible first | exact HB.out | apply below_alloc | apply pw_below_drewN | apply below_drew1) | exact HB.out)))); have n1_ := Aside0.mk (below_step (by repeat (first | (with_reducible first | exact HB.out | apply below_alloc | apply pw_below_drewN | apply below_drew1) | exact HB.out)) hb); clear HB; have HO169 := n0_; have HB := n1_; clear n0_ n1_; (try clear hb); (try clear hb2); (try clear hk); (try clear hi); (try clear ho0)) | ((with_reducible refine gate_callee (f := 20) rfl ?_); refine goesL_ (some 154) rfl rfl Try.func20 (by kernel_rfl) rfl #[.slice A1 l1.length c1] rfl (by (try simp only [List.map_toArray, List.map_cons, List.map_nil]); first | done | rfl | (simp only [tb_wrap8]; done) | (simp only [tb_wrap8]; rfl) | (simp only [List.length_drop, List.length_take]; rfl)) ?_; (with_reducible refine (culletlaw10_twin.calls _ _ l1 t170 _ ?side1 ?side2 A86.out).mono ?_); (case side1 => repeat (first | exact (Kd.C_below HR1.out HB.out) | (with_reducible refine Kd.C_alloc ?_ _) | (with_reducible refine Kd.C_drewN ?_ _) | (with_reducible refine Kd.C_drew ?_))); (case side2 => exact HC1.out); rintro e w96 ⟨v171, rfl, ho0, hb⟩; refine ⟨_, rfl, ?_⟩; have n0_ := Aside0.mk (Kd.N_elder' (by (with_reducible repeat (first | apply Kd.N_alloc | apply Kd.N_drewN | apply Kd.N_drew)); exact HO169.out) (by first | exact Kd.N_base ho0 | exact Kd.S_base ho0) hb); have n1_ := Aside0.mk (Kd.N_lower (Kd.N_mono (ok' := fun k_ => some k_ ≠ (v168 : Value).ownBlock) (Kd.S_N (Kd.S_bound ho0)) (fun k_ hk_ => (Kd.fresh' (Kd.N_lt (by (with_reducible repeat (first | apply Kd.N_alloc | apply Kd.N_drewN | apply Kd.N_drew)); exact HO169.out)) k_ hk_.2.1))) (below_size (by repeat (first | (with_reducible first | exact HB.out | apply below_alloc | apply pw_below_drewN | apply below_drew1) | exact HB.out)))); have n2_ := Aside0.mk (below_step (by repeat (first | (with_reducible first | exact HB.out | apply below_alloc | apply pw_below_drewN | apply below_drew1) | exact HB.out)) hb); clear HO169; clear HB; have HO169 := n0_; have HO172 := n1_; have HB := n2_; clear n0_ n1_ n2_; (try clear hb); (try clear hb2); (try clear hk); (try clear hi); (try clear ho0); obtain ⟨Ao97, co97, eo97⟩ := Kd.N_slice HO169.out; subst eo97; obtain ⟨Ao98, co98, eo98⟩ := Kd.N_slice HO172.out; subst eo98) | ((with_reducible refine gate_callee (f := 22) rfl ?_); refine goesL_ (some 155) rfl rfl Try.func22 (by kernel_rfl) rfl #[.slice Ao97 t167.length co97, .slice Ao98 t170.length co98] rfl (by (try simp only [List.map_toArray, List.map_cons, List.map_nil]); first | done | rfl | (simp only [tb_wrap8]; done) | (simp only [tb_wrap8]; rfl) | (simp only [List.length_drop, List.length_take]; rfl)) ?_; (with_reducible refine (matrix_Mul.calls kj79 _ _ t167 _ _ t170 t173 t174 _ ?side1 ?side2 ?side3 ?side4 A87.out).mono ?_); (case side1 => repeat (first | exact (Kd.N_reads' HO169.out).2.2 | (with_reducible refine Kd.C_alloc ?_ _) | (with_reducible refine Kd.C_drewN ?_ _) | (with_reducible refine Kd.C_drew ?_))); (case side2 => exact (Kd.N_reads' HO169.out).2.1); (case side3 => repeat (first | exact (Kd.N_reads' HO172.out).2.2 | (with_reducible refine Kd.C_alloc ?_ _) | (with_reducible refine Kd.C_drewN ?_ _) | (with_reducible refine Kd.C_drew ?_))); (case side4 => exact (Kd.N_reads' HO172.out).2.1); rintro e w99 ⟨v175, rfl, ho0, hb⟩; refine ⟨_, rfl, ?_⟩; have n0_ := Aside0.mk (Kd.N_elder' (by (with_reducible repeat (first | apply Kd.N_alloc | apply Kd.N_drewN | apply Kd.N_drew)); exact HO169.out) (by first | exact Kd.N_base ho0 | exact Kd.S_base ho0) hb); have n1_ := Aside0.mk (Kd.N_elder' (by (with_reducible repeat (first | apply Kd.N_alloc | apply Kd.N_drewN | apply Kd.N_drew)); exact HO172.out) (by first | exact Kd.N_base ho0 | exact Kd.S_base ho0) hb); have n2_ := Aside0.mk (Kd.N_lower (Kd.N_mono (ok' := fun k_ => some k_ ≠ (.slice Ao97 t167.length co97 : Value).ownBlock ∧ some k_ ≠ (.slice Ao98 t170.length co98 : Value).ownBlock) (Kd.S_N (Kd.S_bound ho0)) (fun k_ hk_ => ⟨(Kd.fresh' (Kd.N_lt (by (with_reducible repeat (first | apply Kd.N_alloc | apply Kd.N_drewN | apply Kd.N_drew)); exact HO169.out)) k_ hk_.2.1), (Kd.fresh' (Kd.N_lt (by (with_reducible repeat (first | apply Kd.N_alloc | apply Kd.N_drewN | apply Kd.N_drew)); exact HO172.out)) k_ hk_.2.1)⟩)) (below_size (by repeat (first | (with_reducible first | exact HB.out | apply below_alloc | apply pw_below_drewN | apply below_drew1) | exact HB.out)))); have n3_ := Aside0.mk (below_step (by repeat (first | (with_reducible first | exact HB.out | apply below_alloc | apply pw_below_drewN | apply below_drew1) | exact HB.out)) hb); clear HO169; clear HO172; clear HB; have HO169 := n0_; have HO172 := n1_; have HO176 := n2_; have HB := n3_; clear n0_ n1_ n2_ n3_; (try clear hb); (try clear hb2); (try clear hk); (try clear hi); (try clear ho0)) | ((with_reducible refine gate_callee (f := 20) rfl ?_); refine goesL_ (some 162) rfl rfl Try.func20 (by kernel_rfl) rfl #[.slice A1 l1.length c1] rfl (by (try simp only [List.map_toArray, List.map_cons, List.map_nil]); first | done | rfl | (simp only [tb_wrap8]; done) | (simp only [tb_wrap8]; rfl) | (simp only [List.length_drop, List.length_take]; rfl)) ?_; (with_reducible refine (culletlaw10_twin.calls _ _ l1 t177 _ ?side1 ?side2 A89.out).mono ?_); (case side1 => repeat (first | exact (Kd.C_below HR1.out HB.out) | (with_reducible refine Kd.C_alloc ?_ _) | (with_reducible refine Kd.C_drewN ?_ _) | (with_reducible refine Kd.C_drew ?_))); (case side2 => exact HC1.out); rintro e w100 ⟨v178, rfl, ho0, hb⟩; refine ⟨_, rfl, ?_⟩; have n0_ := Aside0.mk (Kd.N_elder' (by (with_reducible repeat (first | apply Kd.N_alloc | apply Kd.N_drewN | apply Kd.N_drew)); exact HO169.out) (by first | exact Kd.N_base ho0 | exact Kd.S_base ho0) hb); have n1_ := Aside0.mk (Kd.N_elder' (by (with_reducible repeat (first | apply Kd.N_alloc | apply Kd.N_drewN | apply Kd.N_drew)); exact HO172.out) (by first | exact Kd.N_base ho0 | exact Kd.S_base ho0) hb); have n2_ := Aside0.mk (Kd.N_elder' (by (with_reducible repeat (first | apply Kd.N_alloc | apply Kd.N_drewN | apply Kd.N_drew)); exact HO176.out) (by first | exact Kd.N_base ho0 | exact Kd.S_base ho0) hb); have n3_ := Aside0.mk (Kd.N_lower (Kd.N_mono (ok' := fun k_ => some k_ ≠ (.slice Ao97 t167.length co97 : Value).ownBlock ∧ some k_ ≠ (.slice Ao98 t170.length co98 : Value).ownBlock ∧ some k_ ≠ (v175 : Value).ownBlock) (Kd.S_N (Kd.S_bound ho0)) (fun k_ hk_ => ⟨(Kd.fresh' (Kd.N_lt (by (with_reducible repeat (first | apply Kd.N_alloc | apply Kd.N_drewN | apply Kd.N_drew)); exact HO169.out)) k_ hk_.2.1), (Kd.fresh' (Kd.N_lt (by (with_reducible repeat (first | apply Kd.N_alloc | apply Kd.N_drewN | apply Kd.N_drew)); exact HO172.out)) k_ hk_.2.1), (Kd.fresh' (Kd.N_lt (by (with_reducible repeat (first | apply Kd.N_alloc | apply Kd.N_drewN | apply Kd.N_drew)); exact HO176.out)) k_ hk_.2.1)⟩)) (below_size (by repeat (first | (with_reducible first | exact HB.out | apply below_alloc | apply pw_below_drewN | apply below_drew1) | exact HB.out)))); have n4_ := Aside0.mk (below_step (by repeat (first | (with_reducible first | exact HB.out | apply below_alloc | apply pw_below_drewN | apply below_drew1) | exact HB.out)) hb); clear HO169; clear HO172; clear HO176; clear HB; have HO169 := n0_; have HO172 := n1_; have HO176 := n2_; have HO179 := n3_; have HB := n4_; clear n0_ n1_ n2_ n3_ n4_; (try clear hb); (try clear hb2); (try clear hk); (try clear hi); (try clear ho0); obtain ⟨Ao101, co101, eo101⟩ := Kd.N_slice HO179.out; subst eo101) | ((with_reducible refine gate_callee (f := 18) rfl ?_); refine goesL_ (some 163) rfl rfl Try.func18 (by kernel_rfl) rfl #[.slice Ao101 t177.length co101] rfl (by (try simp only [List.map_toArray, List.map_cons, List.map_nil]); first | done | rfl | (simp only [tb_wrap8]; done) | (simp only [tb_wrap8]; rfl) | (simp only [List.length_drop, List.length_take]; rfl)) ?_; (with_reducible refine (matrix_Det.calls _ _ t177 t180 t181 _ ?side1 ?side2 A90.out).mono ?_); (case side1 => repeat (first | exact (Kd.N_reads' HO179.out).2.2 | (with_reducible refine Kd.C_alloc ?_ _) | (with_reducible refine Kd.C_drewN ?_ _) | (with_reducible refine Kd.C_drew ?_))); (case side2 => exact (Kd.N_reads' HO179.out).2.1); rintro e w102 ⟨rfl, hb⟩; refine ⟨_, rfl, ?_⟩; have n0_ := Aside0.mk (Kd.N_below (by (with_reducible repeat (first | apply Kd.N_alloc | apply Kd.N_drewN | apply Kd.N_drew)); exact HO169.out) hb); have n1_ := Aside0.mk (Kd.N_below (by (with_reducible repeat (first | apply Kd.N_alloc | apply Kd.N_drewN | apply Kd.N_drew)); exact HO172.out) hb); have n2_ := Aside0.mk (Kd.N_below (by (with_reducible repeat (first | apply Kd.N_alloc | apply Kd.N_drewN | apply Kd.N_drew)); exact HO176.out) hb); have n3_ := Aside0.mk (Kd.N_below (by (with_reducible repeat (first | apply Kd.N_alloc | apply Kd.N_drewN | apply Kd.N_drew)); exact HO179.out) hb); have n4_ := Aside0.mk (below_step (by repeat (first | (with_reducible first | exact HB.out | apply below_alloc | apply pw_below_drewN | apply below_drew1) | exact HB.out)) hb); clear HO169; clear HO172; clear HO176; clear HO179; clear HB; have HO169 := n0_; have HO172 := n1_; have HO176 := n2_; have HO179 := n3_; have HB := n4_; clear n0_ n1_ n2_ n3_ n4_; (try clear hb); (try clear hb2); (try clear hk); (try clear hi); obtain ⟨Ao103, co103, eo103⟩ := Kd.N_slice HO176.out; subst eo103) | ((with_reducible refine gate_callee (f := 18) rfl ?_); refine goesL_ (some 168) rfl rfl Try.func18 (by kernel_rfl) rfl #[.slice Ao103 t173.length co103] rfl (by (try simp only [List.map_toArray, List.map_cons, List.map_nil]); first | done | rfl | (simp only [tb_wrap8]; done) | (simp only [tb_wrap8]; rfl) | (simp only [List.length_drop, List.length_take]; rfl)) ?_; (with_reducible refine (matrix_Det.calls _ _ t173 t182 t183 _ ?side1 ?side2 A91.out).mono ?_); (case side1 => repeat (first | exact (Kd.N_reads' HO176.out).2.2 | (with_reducible refine Kd.C_alloc ?_ _) | (with_reducible refine Kd.C_drewN ?_ _) | (with_reducible refine Kd.C_drew ?_))); (case side2 => exact (Kd.N_reads' HO176.out).2.1); rintro e w104 ⟨rfl, hb⟩; refine ⟨_, rfl, ?_⟩; have n0_ := Aside0.mk (Kd.N_below (by (with_reducible repeat (first | apply Kd.N_alloc | apply Kd.N_drewN | apply Kd.N_drew)); exact HO169.out) hb); have n1_ := Aside0.mk (Kd.N_below (by (with_reducible repeat (first | apply Kd.N_alloc | apply Kd.N_drewN | apply Kd.N_drew)); exact HO172.out) hb); have n2_ := Aside0.mk (Kd.N_below (by (with_reducible repeat (first | apply Kd.N_alloc | apply Kd.N_drewN | apply Kd.N_drew)); exact HO176.out) hb); have n3_ := Aside0.mk (Kd.N_below (by (with_reducible repeat (first | apply Kd.N_alloc | apply Kd.N_drewN | apply Kd.N_drew)); exact HO179.out) hb); have n4_ := Aside0.mk (below_step (by repeat (first | (with_reducible first | exact HB.out | apply below_alloc | apply pw_below_drewN | apply below_drew1) | exact HB.out)) hb); clear HO169; clear HO172; clear HO176; clear HO179; clear HB; have HO169 := n0_; have HO172 := n1_; have HO176 := n2_; have HO179 := n3_; have HB := n4_; clear n0_ n1_ n2_ n3_ n4_; (try clear hb); (try clear hb2); (try clear hk); (try clear hi)) | (go_at_call 17; (with_reducible refine (gf8_Mul.calls kj79 t128 t180 t184 _ A94.out).mono ?_); rintro e w' ⟨rfl, ⟨nd, rfl⟩⟩))
                                                go_ret
                                                exact ⟨by first | rfl | (simp [errW_none, errW_some] <;> rfl) | (simp [*, errW_none, errW_some] <;> rfl), by repeat (first | (with_reducible first | exact HB.out | apply below_alloc | apply pw_below_drewN | apply below_drew1) | exact HB.out)⟩
                                              · rw [if_neg c93] at H
                                                have c93b0 : (t183 == 0) = false := beq_eq_false_iff_ne.mpr c93
                                                have c93b1 : (t183 != 0) = true := bne_iff_ne.mpr c93
                                                obtain rfl := Option.some.inj H
                                                go_wp2_with (first | ((with_reducible refine gate_callee (f := 20) rfl ?_); refine goesL_ (some 152) rfl rfl Try.func20 (by kernel_rfl) rfl #[.slice A0 l0.length c0] rfl (by (try simp only [List.map_toArray, List.map_cons, List.map_nil]); first | done | rfl | (simp only [tb_wrap8]; done) | (simp only [tb_wrap8]; rfl) | (simp only [List.length_drop, List.length_take]; rfl)) ?_; (with_reducible refine (culletlaw10_twin.calls _ _ l0 t167 _ ?side1 ?side2 A85.out).mono ?_); (case side1 => repeat (first | exact (Kd.C_below HR0.out HB.out) | (with_reducible refine Kd.C_alloc ?_ _) | (with_reducible refine Kd.C_drewN ?_ _) | (with_reducible refine Kd.C_drew ?_))); (case side2 => exact HC0.out); rintro e w105 ⟨v168, rfl, ho0, hb⟩; refine ⟨_, rfl, ?_⟩; have n0_ := Aside0.mk (Kd.N_lower (Kd.N_mono (ok' := fun k_ => True) (Kd.S_N (Kd.S_bound ho0)) (fun k_ hk_ => trivial)) (below_size (by repeat (first | (with_reducible first | exact HB.out | apply below_alloc | apply pw_below_drewN | apply below_drew1) | exact HB.out)))); have n1_ := Aside0.mk (below_step (by repeat (first | (with_reducible first | exact HB.out | apply below_alloc | apply pw_below_drewN | apply below_drew1) | exact HB.out)) hb); clear HB; have HO169 := n0_; have HB := n1_; clear n0_ n1_; (try clear hb); (try clear hb2); (try clear hk); (try clear hi); (try clear ho0)) | ((with_reducible refine gate_callee (f := 20) rfl ?_); refine goesL_ (some 154) rfl rfl Try.func20 (by kernel_rfl) rfl #[.slice A1 l1.length c1] rfl (by (try simp only [List.map_toArray, List.map_cons, List.map_nil]); first | done | rfl | (simp only [tb_wrap8]; done) | (simp only [tb_wrap8]; rfl) | (simp only [List.length_drop, List.length_take]; rfl)) ?_; (with_reducible refine (culletlaw10_twin.calls _ _ l1 t170 _ ?side1 ?side2 A86.out).mono ?_); (case side1 => repeat (first | exact (Kd.C_below HR1.out HB.out) | (with_reducible refine Kd.C_alloc ?_ _) | (with_reducible refine Kd.C_drewN ?_ _) | (with_reducible refine Kd.C_drew ?_))); (case side2 => exact HC1.out); rintro e w106 ⟨v171, rfl, ho0, hb⟩; refine ⟨_, rfl, ?_⟩; have n0_ := Aside0.mk (Kd.N_elder' (by (with_reducible repeat (first | apply Kd.N_alloc | apply Kd.N_drewN | apply Kd.N_drew)); exact HO169.out) (by first | exact Kd.N_base ho0 | exact Kd.S_base ho0) hb); have n1_ := Aside0.mk (Kd.N_lower (Kd.N_mono (ok' := fun k_ => some k_ ≠ (v168 : Value).ownBlock) (Kd.S_N (Kd.S_bound ho0)) (fun k_ hk_ => (Kd.fresh' (Kd.N_lt (by (with_reducible repeat (first | apply Kd.N_alloc | apply Kd.N_drewN | apply Kd.N_drew)); exact HO169.out)) k_ hk_.2.1))) (below_size (by repeat (first | (with_reducible first | exact HB.out | apply below_alloc | apply pw_below_drewN | apply below_drew1) | exact HB.out)))); have n2_ := Aside0.mk (below_step (by repeat (first | (with_reducible first | exact HB.out | apply below_alloc | apply pw_below_drewN | apply below_drew1) | exact HB.out)) hb); clear HO169; clear HB; have HO169 := n0_; have HO172 := n1_; have HB := n2_; clear n0_ n1_ n2_; (try clear hb); (try clear hb2); (try clear hk); (try clear hi); (try clear ho0); obtain ⟨Ao107, co107, eo107⟩ := Kd.N_slice HO169.out; subst eo107; obtain ⟨Ao108, co108, eo108⟩ := Kd.N_slice HO172.out; subst eo108) | ((with_reducible refine gate_callee (f := 22) rfl ?_); refine goesL_ (some 155) rfl rfl Try.func22 (by kernel_rfl) rfl #[.slice Ao107 t167.length co107, .slice Ao108 t170.length co108] rfl (by (try simp only [List.map_toArray, List.map_cons, List.map_nil]); first | done | rfl | (simp only [tb_wrap8]; done) | (simp only [tb_wrap8]; rfl) | (simp only [List.length_drop, List.length_take]; rfl)) ?_; (with_reducible refine (matrix_Mul.calls kj79 _ _ t167 _ _ t170 t173 t174 _ ?side1 ?side2 ?side3 ?side4 A87.out).mono ?_); (case side1 => repeat (first | exact (Kd.N_reads' HO169.out).2.2 | (with_reducible refine Kd.C_alloc ?_ _) | (with_reducible refine Kd.C_drewN ?_ _) | (with_reducible refine Kd.C_drew ?_))); (case side2 => exact (Kd.N_reads' HO169.out).2.1); (case side3 => repeat (first | exact (Kd.N_reads' HO172.out).2.2 | (with_reducible refine Kd.C_alloc ?_ _) | (with_reducible refine Kd.C_drewN ?_ _) | (with_reducible refine Kd.C_drew ?_))); (case side4 => exact (Kd.N_reads' HO172.out).2.1); rintro e w109 ⟨v175, rfl, ho0, hb⟩; refine ⟨_, rfl, ?_⟩; have n0_ := Aside0.mk (Kd.N_elder' (by (with_reducible repeat (first | apply Kd.N_alloc | apply Kd.N_drewN | apply Kd.N_drew)); exact HO169.out) (by first | exact Kd.N_base ho0 | exact Kd.S_base ho0) hb); have n1_ := Aside0.mk (Kd.N_elder' (by (with_reducible repeat (first | apply Kd.N_alloc | apply Kd.N_drewN | apply Kd.N_drew)); exact HO172.out) (by first | exact Kd.N_base ho0 | exact Kd.S_base ho0) hb); have n2_ := Aside0.mk (Kd.N_lower (Kd.N_mono (ok' := fun k_ => some k_ ≠ (.slice Ao107 t167.length co107 : Value).ownBlock ∧ some k_ ≠ (.slice Ao108 t170.length co108 : Value).ownBlock) (Kd.S_N (Kd.S_bound ho0)) (fun k_ hk_ => ⟨(Kd.fresh' (Kd.N_lt (by (with_reducible repeat (first | apply Kd.N_alloc | apply Kd.N_drewN | apply Kd.N_drew)); exact HO169.out)) k_ hk_.2.1), (Kd.fresh' (Kd.N_lt (by (with_reducible repeat (first | apply Kd.N_alloc | apply Kd.N_drewN | apply Kd.N_drew)); exact HO172.out)) k_ hk_.2.1)⟩)) (below_size (by repeat (first | (with_reducible first | exact HB.out | apply below_alloc | apply pw_below_drewN | apply below_drew1) | exact HB.out)))); have n3_ := Aside0.mk (below_step (by repeat (first | (with_reducible first | exact HB.out | apply below_alloc | apply pw_below_drewN | apply below_drew1) | exact HB.out)) hb); clear HO169; clear HO172; clear HB; have HO169 := n0_; have HO172 := n1_; have HO176 := n2_; have HB := n3_; clear n0_ n1_ n2_ n3_; (try clear hb); (try clear hb2); (try clear hk); (try clear hi); (try clear ho0)) | ((with_reducible refine gate_callee (f := 20) rfl ?_); refine goesL_ (some 162) rfl rfl Try.func20 (by kernel_rfl) rfl #[.slice A1 l1.length c1] rfl (by (try simp only [List.map_toArray, List.map_cons, List.map_nil]); first | done | rfl | (simp only [tb_wrap8]; done) | (simp only [tb_wrap8]; rfl) | (simp only [List.length_drop, List.length_take]; rfl)) ?_; (with_reducible refine (culletlaw10_twin.calls _ _ l1 t177 _ ?side1 ?side2 A89.out).mono ?_); (case side1 => repeat (first | exact (Kd.C_below HR1.out HB.out) | (with_reducible refine Kd.C_alloc ?_ _) | (with_reducible refine Kd.C_drewN ?_ _) | (with_reducible refine Kd.C_drew ?_))); (case side2 => exact HC1.out); rintro e w110 ⟨v178, rfl, ho0, hb⟩; refine ⟨_, rfl, ?_⟩; have n0_ := Aside0.mk (Kd.N_elder' (by (with_reducible repeat (first | apply Kd.N_alloc | apply Kd.N_drewN | apply Kd.N_drew)); exact HO169.out) (by first | exact Kd.N_base ho0 | exact Kd.S_base ho0) hb); have n1_ := Aside0.mk (Kd.N_elder' (by (with_reducible repeat (first | apply Kd.N_alloc | apply Kd.N_drewN | apply Kd.N_drew)); exact HO172.out) (by first | exact Kd.N_base ho0 | exact Kd.S_base ho0) hb); have n2_ := Aside0.mk (Kd.N_elder' (by (with_reducible repeat (first | apply Kd.N_alloc | apply Kd.N_drewN | apply Kd.N_drew)); exact HO176.out) (by first | exact Kd.N_base ho0 | exact Kd.S_base ho0) hb); have n3_ := Aside0.mk (Kd.N_lower (Kd.N_mono (ok' := fun k_ => some k_ ≠ (.slice Ao107 t167.length co107 : Value).ownBlock ∧ some k_ ≠ (.slice Ao108 t170.length co108 : Value).ownBlock ∧ some k_ ≠ (v175 : Value).ownBlock) (Kd.S_N (Kd.S_bound ho0)) (fun k_ hk_ => ⟨(Kd.fresh' (Kd.N_lt (by (with_reducible repeat (first | apply Kd.N_alloc | apply Kd.N_drewN | apply Kd.N_drew)); exact HO169.out)) k_ hk_.2.1), (Kd.fresh' (Kd.N_lt (by (with_reducible repeat (first | apply Kd.N_alloc | apply Kd.N_drewN | apply Kd.N_drew)); exact HO172.out)) k_ hk_.2.1), (Kd.fresh' (Kd.N_lt (by (with_reducible repeat (first | apply Kd.N_alloc | apply Kd.N_drewN | apply Kd.N_drew)); exact HO176.out)) k_ hk_.2.1)⟩)) (below_size (by repeat (first | (with_reducible first | exact HB.out | apply below_alloc | apply pw_below_drewN | apply below_drew1) | exact HB.out)))); have n4_ := Aside0.mk (below_step (by repeat (first | (with_reducible first | exact HB.out | apply below_alloc | apply pw_below_drewN | apply below_drew1) | exact HB.out)) hb); clear HO169; clear HO172; clear HO176; clear HB; have HO169 := n0_; have HO172 := n1_; have HO176 := n2_; have HO179 := n3_; have HB := n4_; clear n0_ n1_ n2_ n3_ n4_; (try clear hb); (try clear hb2); (try clear hk); (try clear hi); (try clear ho0); obtain ⟨Ao111, co111, eo111⟩ := Kd.N_slice HO179.out; subst eo111) | ((with_reducible refine gate_callee (f := 18) rfl ?_); refine goesL_ (some 163) rfl rfl Try.func18 (by kernel_rfl) rfl #[.slice Ao111 t177.length co111] rfl (by (try simp only [List.map_toArray, List.map_cons, List.map_nil]); first | done | rfl | (simp only [tb_wrap8]; done) | (simp only [tb_wrap8]; rfl) | (simp only [List.length_drop, List.length_take]; rfl)) ?_; (with_reducible refine (matrix_Det.calls _ _ t177 t180 t181 _ ?side1 ?side2 A90.out).mono ?_); (case side1 => repeat (first | exact (Kd.N_reads' HO179.out).2.2 | (with_reducible refine Kd.C_alloc ?_ _) | (with_reducible refine Kd.C_drewN ?_ _) | (with_reducible refine Kd.C_drew ?_))); (case side2 => exact (Kd.N_reads' HO179.out).2.1); rintro e w112 ⟨rfl, hb⟩; refine ⟨_, rfl, ?_⟩; have n0_ := Aside0.mk (Kd.N_below (by (with_reducible repeat (first | apply Kd.N_alloc | apply Kd.N_drewN | apply Kd.N_drew)); exact HO169.out) hb); have n1_ := Aside0.mk (Kd.N_below (by (with_reducible repeat (first | apply Kd.N_alloc | apply Kd.N_drewN | apply Kd.N_drew)); exact HO172.out) hb); have n2_ := Aside0.mk (Kd.N_below (by (with_reducible repeat (first | apply Kd.N_alloc | apply Kd.N_drewN | apply Kd.N_drew)); exact HO176.out) hb); have n3_ := Aside0.mk (Kd.N_below (by (with_reducible repeat (first | apply Kd.N_alloc | apply Kd.N_drewN | apply Kd.N_drew)); exact HO179.out) hb); have n4_ := Aside0.mk (below_step (by repeat (first | (with_reducible first | exact HB.out | apply below_alloc | apply pw_below_drewN | apply below_drew1) | exact HB.out)) hb); clear HO169; clear HO172; clear HO176; clear HO179; clear HB; have HO169 := n0_; have HO172 := n1_; have HO176 := n2_; have HO179 := n3_; have HB := n4_; clear n0_ n1_ n2_ n3_ n4_; (try clear hb); (try clear hb2); (try clear hk); (try clear hi); obtain ⟨Ao113, co113, eo113⟩ := Kd.N_slice HO176.out; subst eo113) | ((with_reducible refine gate_callee (f := 18) rfl ?_); refine goesL_ (some 168) rfl rfl Try.func18 (by kernel_rfl) rfl #[.slice Ao113 t173.length co113] rfl (by (try simp only [List.map_toArray, List.map_cons, List.map_nil]); first | done | rfl | (simp only [tb_wrap8]; done) | (simp only [tb_wrap8]; rfl) | (simp only [List.length_drop, List.length_take]; rfl)) ?_; (with_reducible refine (matrix_Det.calls _ _ t173 t182 t183 _ ?side1 ?side2 A91.out).mono ?_); (case side1 => repeat (first | exact (Kd.N_reads' HO176.out).2.2 | (with_reducible refine Kd.C_alloc ?_ _) | (with_reducible refine Kd.C_drewN ?_ _) | (with_reducible refine Kd.C_drew ?_))); (case side2 => exact (Kd.N_reads' HO176.out).2.1); rintro e w114 ⟨rfl, hb⟩; refine ⟨_, rfl, ?_⟩; have n0_ := Aside0.mk (Kd.N_below (by (with_reducible repeat (first | apply Kd.N_alloc | apply Kd.N_drewN | apply Kd.N_drew)); exact HO169.out) hb); have n1_ := Aside0.mk (Kd.N_below (by (with_reducible repeat (first | apply Kd.N_alloc | apply Kd.N_drewN | apply Kd.N_drew)); exact HO172.out) hb); have n2_ := Aside0.mk (Kd.N_below (by (with_reducible repeat (first | apply Kd.N_alloc | apply Kd.N_drewN | apply Kd.N_drew)); exact HO176.out) hb); have n3_ := Aside0.mk (Kd.N_below (by (with_reducible repeat (first | apply Kd.N_alloc | apply Kd.N_drewN | apply Kd.N_drew)); exact HO179.out) hb); have n4_ := Aside0.mk (below_step (by repeat (first | (with_reducible first | exact HB.out | apply below_alloc | apply pw_below_drewN | apply below_drew1) | exact HB.out)) hb); clear HO169; clear HO172; clear HO176; clear HO179; clear HB; have HO169 := n0_; have HO172 := n1_; have HO176 := n2_; have HO179 := n3_; have HB := n4_; clear n0_ n1_ n2_ n3_ n4_; (try clear hb); (try clear hb2); (try clear hk); (try clear hi)))
                                                go_ret
                                                exact ⟨by first | rfl | (simp [errW_none, errW_some] <;> rfl) | (simp [*, errW_none, errW_some] <;> rfl), by repeat (first | (with_reducible first | exact HB.out | apply below_alloc | apply pw_below_drewN | apply below_drew1) | exact HB.out)⟩
                                            · rw [if_neg c92] at H
                                              have c92b0 : (t181 == 0) = false := beq_eq_false_iff_ne.mpr c92
                                              have c92b1 : (t181 != 0) = true := bne_iff_ne.mpr c92
                                              obtain rfl := Option.some.inj H
                                              go_wp2_with (first | ((with_reducible refine gate_callee (f := 20) rfl ?_); refine goesL_ (some 152) rfl rfl Try.func20 (by kernel_rfl) rfl #[.slice A0 l0.length c0] rfl (by (try simp only [List.map_toArray, List.map_cons, List.map_nil]); first | done | rfl | (simp only [tb_wrap8]; done) | (simp only [tb_wrap8]; rfl) | (simp only [List.length_drop, List.length_take]; rfl)) ?_; (with_reducible refine (culletlaw10_twin.calls _ _ l0 t167 _ ?side1 ?side2 A85.out).mono ?_); (case side1 => repeat (first | exact (Kd.C_below HR0.out HB.out) | (with_reducible refine Kd.C_alloc ?_ _) | (with_reducible refine Kd.C_drewN ?_ _) | (with_reducible refine Kd.C_drew ?_))); (case side2 => exact HC0.out); rintro e w115 ⟨v168, rfl, ho0, hb⟩; refine ⟨_, rfl, ?_⟩; have n0_ := Aside0.mk (Kd.N_lower (Kd.N_mono (ok' := fun k_ => True) (Kd.S_N (Kd.S_bound ho0)) (fun k_ hk_ => trivial)) (below_size (by repeat (first | (with_reducible first | exact HB.out | apply below_alloc | apply pw_below_drewN | apply below_drew1) | exact HB.out)))); have n1_ := Aside0.mk (below_step (by repeat (first | (with_reducible first | exact HB.out | apply below_alloc | apply pw_below_drewN | apply below_drew1) | exact HB.out)) hb); clear HB; have HO169 := n0_; have HB := n1_; clear n0_ n1_; (try clear hb); (try clear hb2); (try clear hk); (try clear hi); (try clear ho0)) | ((with_reducible refine gate_callee (f := 20) rfl ?_); refine goesL_ (some 154) rfl rfl Try.func20 (by kernel_rfl) rfl #[.slice A1 l1.length c1] rfl (by (try simp only [List.map_toArray, List.map_cons, List.map_nil]); first | done | rfl | (simp only [tb_wrap8]; done) | (simp only [tb_wrap8]; rfl) | (simp only [List.length_drop, List.length_take]; rfl)) ?_; (with_reducible refine (culletlaw10_twin.calls _ _ l1 t170 _ ?side1 ?side2 A86.out).mono ?_); (case side1 => repeat (first | exact (Kd.C_below HR1.out HB.out) | (with_reducible refine Kd.C_alloc ?_ _) | (with_reducible refine Kd.C_drewN ?_ _) | (with_reducible refine Kd.C_drew ?_))); (case side2 => exact HC1.out); rintro e w116 ⟨v171, rfl, ho0, hb⟩; refine ⟨_, rfl, ?_⟩; have n0_ := Aside0.mk (Kd.N_elder' (by (with_reducible repeat (first | apply Kd.N_alloc | apply Kd.N_drewN | apply Kd.N_drew)); exact HO169.out) (by first | exact Kd.N_base ho0 | exact Kd.S_base ho0) hb); have n1_ := Aside0.mk (Kd.N_lower (Kd.N_mono (ok' := fun k_ => some k_ ≠ (v168 : Value).ownBlock) (Kd.S_N (Kd.S_bound ho0)) (fun k_ hk_ => (Kd.fresh' (Kd.N_lt (by (with_reducible repeat (first | apply Kd.N_alloc | apply Kd.N_drewN | apply Kd.N_drew)); exact HO169.out)) k_ hk_.2.1))) (below_size (by repeat (first | (with_reducible first | exact HB.out | apply below_alloc | apply pw_below_drewN | apply below_drew1) | exact HB.out)))); have n2_ := Aside0.mk (below_step (by repeat (first | (with_reducible first | exact HB.out | apply below_alloc | apply pw_below_drewN | apply below_drew1) | exact HB.out)) hb); clear HO169; clear HB; have HO169 := n0_; have HO172 := n1_; have HB := n2_; clear n0_ n1_ n2_; (try clear hb); (try clear hb2); (try clear hk); (try clear hi); (try clear ho0); obtain ⟨Ao117, co117, eo117⟩ := Kd.N_slice HO169.out; subst eo117; obtain ⟨Ao118, co118, eo118⟩ := Kd.N_slice HO172.out; subst eo118) | ((with_reducible refine gate_callee (f := 22) rfl ?_); refine goesL_ (some 155) rfl rfl Try.func22 (by kernel_rfl) rfl #[.slice Ao117 t167.length co117, .slice Ao118 t170.length co118] rfl (by (try simp only [List.map_toArray, List.map_cons, List.map_nil]); first | done | rfl | (simp only [tb_wrap8]; done) | (simp only [tb_wrap8]; rfl) | (simp only [List.length_drop, List.length_take]; rfl)) ?_; (with_reducible refine (matrix_Mul.calls kj79 _ _ t167 _ _ t170 t173 t174 _ ?side1 ?side2 ?side3 ?side4 A87.out).mono ?_); (case side1 => repeat (first | exact (Kd.N_reads' HO169.out).2.2 | (with_reducible refine Kd.C_alloc ?_ _) | (with_reducible refine Kd.C_drewN ?_ _) | (with_reducible refine Kd.C_drew ?_))); (case side2 => exact (Kd.N_reads' HO169.out).2.1); (case side3 => repeat (first | exact (Kd.N_reads' HO172.out).2.2 | (with_reducible refine Kd.C_alloc ?_ _) | (with_reducible refine Kd.C_drewN ?_ _) | (with_reducible refine Kd.C_drew ?_))); (case side4 => exact (Kd.N_reads' HO172.out).2.1); rintro e w119 ⟨v175, rfl, ho0, hb⟩; refine ⟨_, rfl, ?_⟩; have n0_ := Aside0.mk (Kd.N_elder' (by (with_reducible repeat (first | apply Kd.N_alloc | apply Kd.N_drewN | apply Kd.N_drew)); exact HO169.out) (by first | exact Kd.N_base ho0 | exact Kd.S_base ho0) hb); have n1_ := Aside0.mk (Kd.N_elder' (by (with_reducible repeat (first | apply Kd.N_alloc | apply Kd.N_drewN | apply Kd.N_drew)); exact HO172.out) (by first | exact Kd.N_base ho0 | exact Kd.S_base ho0) hb); have n2_ := Aside0.mk (Kd.N_lower (Kd.N_mono (ok' := fun k_ => some k_ ≠ (.slice Ao117 t167.length co117 : Value).ownBlock ∧ some k_ ≠ (.slice Ao118 t170.length co118 : Value).ownBlock) (Kd.S_N (Kd.S_bound ho0)) (fun k_ hk_ => ⟨(Kd.fresh' (Kd.N_lt (by (with_reducible repeat (first | apply Kd.N_alloc | apply Kd.N_drewN | apply Kd.N_drew)); exact HO169.out)) k_ hk_.2.1), (Kd.fresh' (Kd.N_lt (by (with_reducible repeat (first | apply Kd.N_alloc | apply Kd.N_drewN | apply Kd.N_drew)); exact HO172.out)) k_ hk_.2.1)⟩)) (below_size (by repeat (first | (with_reducible first | exact HB.out | apply below_alloc | apply pw_below_drewN | apply below_drew1) | exact HB.out)))); have n3_ := Aside0.mk (below_step (by repeat (first | (with_reducible first | exact HB.out | apply below_alloc | apply pw_below_drewN | apply below_drew1) | exact HB.out)) hb); clear HO169; clear HO172; clear HB; have HO169 := n0_; have HO172 := n1_; have HO176 := n2_; have HB := n3_; clear n0_ n1_ n2_ n3_; (try clear hb); (try clear hb2); (try clear hk); (try clear hi); (try clear ho0)) | ((with_reducible refine gate_callee (f := 20) rfl ?_); refine goesL_ (some 162) rfl rfl Try.func20 (by kernel_rfl) rfl #[.slice A1 l1.length c1] rfl (by (try simp only [List.map_toArray, List.map_cons, List.map_nil]); first | done | rfl | (simp only [tb_wrap8]; done) | (simp only [tb_wrap8]; rfl) | (simp only [List.length_drop, List.length_take]; rfl)) ?_; (with_reducible refine (culletlaw10_twin.calls _ _ l1 t177 _ ?side1 ?side2 A89.out).mono ?_); (case side1 => repeat (first | exact (Kd.C_below HR1.out HB.out) | (with_reducible refine Kd.C_alloc ?_ _) | (with_reducible refine Kd.C_drewN ?_ _) | (with_reducible refine Kd.C_drew ?_))); (case side2 => exact HC1.out); rintro e w120 ⟨v178, rfl, ho0, hb⟩; refine ⟨_, rfl, ?_⟩; have n0_ := Aside0.mk (Kd.N_elder' (by (with_reducible repeat (first | apply Kd.N_alloc | apply Kd.N_drewN | apply Kd.N_drew)); exact HO169.out) (by first | exact Kd.N_base ho0 | exact Kd.S_base ho0) hb); have n1_ := Aside0.mk (Kd.N_elder' (by (with_reducible repeat (first | apply Kd.N_alloc | apply Kd.N_drewN | apply Kd.N_drew)); exact HO172.out) (by first | exact Kd.N_base ho0 | exact Kd.S_base ho0) hb); have n2_ := Aside0.mk (Kd.N_elder' (by (with_reducible repeat (first | apply Kd.N_alloc | apply Kd.N_drewN | apply Kd.N_drew)); exact HO176.out) (by first | exact Kd.N_base ho0 | exact Kd.S_base ho0) hb); have n3_ := Aside0.mk (Kd.N_lower (Kd.N_mono (ok' := fun k_ => some k_ ≠ (.slice Ao117 t167.length co117 : Value).ownBlock ∧ some k_ ≠ (.slice Ao118 t170.length co118 : Value).ownBlock ∧ some k_ ≠ (v175 : Value).ownBlock) (Kd.S_N (Kd.S_bound ho0)) (fun k_ hk_ => ⟨(Kd.fresh' (Kd.N_lt (by (with_reducible repeat (first | apply Kd.N_alloc | apply Kd.N_drewN | apply Kd.N_drew)); exact HO169.out)) k_ hk_.2.1), (Kd.fresh' (Kd.N_lt (by (with_reducible repeat (first | apply Kd.N_alloc | apply Kd.N_drewN | apply Kd.N_drew)); exact HO172.out)) k_ hk_.2.1), (Kd.fresh' (Kd.N_lt (by (with_reducible repeat (first | apply Kd.N_alloc | apply Kd.N_drewN | apply Kd.N_drew)); exact HO176.out)) k_ hk_.2.1)⟩)) (below_size (by repeat (first | (with_reducible first | exact HB.out | apply below_alloc | apply pw_below_drewN | apply below_drew1) | exact HB.out)))); have n4_ := Aside0.mk (below_step (by repeat (first | (with_reducible first | exact HB.out | apply below_alloc | apply pw_below_drewN | apply below_drew1) | exact HB.out)) hb); clear HO169; clear HO172; clear HO176; clear HB; have HO169 := n0_; have HO172 := n1_; have HO176 := n2_; have HO179 := n3_; have HB := n4_; clear n0_ n1_ n2_ n3_ n4_; (try clear hb); (try clear hb2); (try clear hk); (try clear hi); (try clear ho0); obtain ⟨Ao121, co121, eo121⟩ := Kd.N_slice HO179.out; subst eo121) | ((with_reducible refine gate_callee (f := 18) rfl ?_); refine goesL_ (some 163) rfl rfl Try.func18 (by kernel_rfl) rfl #[.slice Ao121 t177.length co121] rfl (by (try simp only [List.map_toArray, List.map_cons, List.map_nil]); first | done | rfl | (simp only [tb_wrap8]; done) | (simp only [tb_wrap8]; rfl) | (simp only [List.length_drop, List.length_take]; rfl)) ?_; (with_reducible refine (matrix_Det.calls _ _ t177 t180 t181 _ ?side1 ?side2 A90.out).mono ?_); (case side1 => repeat (first | exact (Kd.N_reads' HO179.out).2.2 | (with_reducible refine Kd.C_alloc ?_ _) | (with_reducible refine Kd.C_drewN ?_ _) | (with_reducible refine Kd.C_drew ?_))); (case side2 => exact (Kd.N_reads' HO179.out).2.1); rintro e w122 ⟨rfl, hb⟩; refine ⟨_, rfl, ?_⟩; have n0_ := Aside0.mk (Kd.N_below (by (with_reducible repeat (first | apply Kd.N_alloc | apply Kd.N_drewN | apply Kd.N_drew)); exact HO169.out) hb); have n1_ := Aside0.mk (Kd.N_below (by (with_reducible repeat (first | apply Kd.N_alloc | apply Kd.N_drewN | apply Kd.N_drew)); exact HO172.out) hb); have n2_ := Aside0.mk (Kd.N_below (by (with_reducible repeat (first | apply Kd.N_alloc | apply Kd.N_drewN | apply Kd.N_drew)); exact HO176.out) hb); have n3_ := Aside0.mk (Kd.N_below (by (with_reducible repeat (first | apply Kd.N_alloc | apply Kd.N_drewN | apply Kd.N_drew)); exact HO179.out) hb); have n4_ := Aside0.mk (below_step (by repeat (first | (with_reducible first | exact HB.out | apply below_alloc | apply pw_below_drewN | apply below_drew1) | exact HB.out)) hb); clear HO169; clear HO172; clear HO176; clear HO179; clear HB; have HO169 := n0_; have HO172 := n1_; have HO176 := n2_; have HO179 := n3_; have HB := n4_; clear n0_ n1_ n2_ n3_ n4_; (try clear hb); (try clear hb2); (try clear hk); (try clear hi); obtain ⟨Ao123, co123, eo123⟩ := Kd.N_slice HO176.out; subst eo123) | ((with_reducible refine gate_callee (f := 18) rfl ?_); refine goesL_ (some 168) rfl rfl Try.func18 (by kernel_rfl) rfl #[.slice Ao123 t173.length co123] rfl (by (try simp only [List.map_toArray, List.map_cons, List.map_nil]); first | done | rfl | (simp only [tb_wrap8]; done) | (simp only [tb_wrap8]; rfl) | (simp only [List.length_drop, List.length_take]; rfl)) ?_; (with_reducible refine (matrix_Det.calls _ _ t173 t182 t183 _ ?side1 ?side2 A91.out).mono ?_); (case side1 => repeat (first | exact (Kd.N_reads' HO176.out).2.2 | (with_reducible refine Kd.C_alloc ?_ _) | (with_reducible refine Kd.C_drewN ?_ _) | (with_reducible refine Kd.C_drew ?_))); (case side2 => exact (Kd.N_reads' HO176.out).2.1); rintro e w124 ⟨rfl, hb⟩; refine ⟨_, rfl, ?_⟩; have n0_ := Aside0.mk (Kd.N_below (by (with_reducible repeat (first | apply Kd.N_alloc | apply Kd.N_drewN | apply Kd.N_drew)); exact HO169.out) hb); have n1_ := Aside0.mk (Kd.N_below (by (with_reducible repeat (first | apply Kd.N_alloc | apply Kd.N_drewN | apply Kd.N_drew)); exact HO172.out) hb); have n2_ := Aside0.mk (Kd.N_below (by (with_reducible repeat (first | apply Kd.N_alloc | apply Kd.N_drewN | apply Kd.N_drew)); exact HO176.out) hb); have n3_ := Aside0.mk (Kd.N_below (by (with_reducible repeat (first | apply Kd.N_alloc | apply Kd.N_drewN | apply Kd.N_drew)); exact HO179.out) hb); have n4_ := Aside0.mk (below_step (by repeat (first | (with_reducible first | exact HB.out | apply below_alloc | apply pw_below_drewN | apply below_drew1) | exact HB.out)) hb); clear HO169; clear HO172; clear HO176; clear HO179; clear HB; have HO169 := n0_; have HO172 := n1_; have HO176 := n2_; have HO179 := n3_; have HB := n4_; clear n0_ n1_ n2_ n3_ n4_; (try clear hb); (try clear hb2); (try clear hk); (try clear hi)))
                                              go_ret
                                              exact ⟨by first | rfl | (simp [errW_none, errW_some] <;> rfl) | (simp [*, errW_none, errW_some] <;> rfl), by repeat (first | (with_reducible first | exact HB.out | apply below_alloc | apply pw_below_drewN | apply below_drew1) | exact HB.out)⟩
                                          · rw [if_neg c88] at H
                                            have c88b0 : (t174 == 0) = false := beq_eq_false_iff_ne.mpr c88
                                            have c88b1 : (t174 != 0) = true := bne_iff_ne.mpr c88
                                            obtain rfl := Option.some.inj H
                                            go_wp2_with (first | ((with_reducible refine gate_callee (f := 20) rfl ?_); refine goesL_ (some 152) rfl rfl Try.func20 (by kernel_rfl) rfl #[.slice A0 l0.length c0] rfl (by (try simp only [List.map_toArray, List.map_cons, List.map_nil]); first | done | rfl | (simp only [tb_wrap8]; done) | (simp only [tb_wrap8]; rfl) | (simp only [List.length_drop, List.length_take]; rfl)) ?_; (with_reducible refine (culletlaw10_twin.calls _ _ l0 t167 _ ?side1 ?side2 A85.out).mono ?_); (case side1 => repeat (first | exact (Kd.C_below HR0.out HB.out) | (with_reducible refine Kd.C_alloc ?_ _) | (with_reducible refine Kd.C_drewN ?_ _) | (with_reducible refine Kd.C_drew ?_))); (case side2 => exact HC0.out); rintro e w125 ⟨v168, rfl, ho0, hb⟩; refine ⟨_, rfl, ?_⟩; have n0_ := Aside0.mk (Kd.N_lower (Kd.N_mono (ok' := fun k_ => True) (Kd.S_N (Kd.S_bound ho0)) (fun k_ hk_ => trivial)) (below_size (by repeat (first | (with_reducible first | exact HB.out | apply below_alloc | apply pw_below_drewN | apply below_drew1) | exact HB.out)))); have n1_ := Aside0.mk (below_step (by repeat (first | (with_reducible first | exact HB.out | apply below_alloc | apply pw_below_drewN | apply below_drew1) | exact HB.out)) hb); clear HB; have HO169 := n0_; have HB := n1_; clear n0_ n1_; (try clear hb); (try clear hb2); (try clear hk); (try clear hi); (try clear ho0)) | ((with_reducible refine gate_callee (f := 20) rfl ?_); refine goesL_ (some 154) rfl rfl Try.func20 (by kernel_rfl) rfl #[.slice A1 l1.length c1] rfl (by (try simp only [List.map_toArray, List.map_cons, List.map_nil]); first | done | rfl | (simp only [tb_wrap8]; done) | (simp only [tb_wrap8]; rfl) | (simp only [List.length_drop, List.length_take]; rfl)) ?_; (with_reducible refine (culletlaw10_twin.calls _ _ l1 t170 _ ?side1 ?side2 A86.out).mono ?_); (case side1 => repeat (first | exact (Kd.C_below HR1.out HB.out) | (with_reducible refine Kd.C_alloc ?_ _) | (with_reducible refine Kd.C_drewN ?_ _) | (with_reducible refine Kd.C_drew ?_))); (case side2 => exact HC1.out); rintro e w126 ⟨v171, rfl, ho0, hb⟩; refine ⟨_, rfl, ?_⟩; have n0_ := Aside0.mk (Kd.N_elder' (by (with_reducible repeat (first | apply Kd.N_alloc | apply Kd.N_drewN | apply Kd.N_drew)); exact HO169.out) (by first | exact Kd.N_base ho0 | exact Kd.S_base ho0) hb); have n1_ := Aside0.mk (Kd.N_lower (Kd.N_mono (ok' := fun k_ => some k_ ≠ (v168 : Value).ownBlock) (Kd.S_N (Kd.S_bound ho0)) (fun k_ hk_ => (Kd.fresh' (Kd.N_lt (by (with_reducible repeat (first | apply Kd.N_alloc | apply Kd.N_drewN | apply Kd.N_drew)); exact HO169.out)) k_ hk_.2.1))) (below_size (by repeat (first | (with_reducible first | exact HB.out | apply below_alloc | apply pw_below_drewN | apply below_drew1) | exact HB.out)))); have n2_ := Aside0.mk (below_step (by repeat (first | (with_reducible first | exact HB.out | apply below_alloc | apply pw_below_drewN | apply below_drew1) | exact HB.out)) hb); clear HO169; clear HB; have HO169 := n0_; have HO172 := n1_; have HB := n2_; clear n0_ n1_ n2_; (try clear hb); (try clear hb2); (try clear hk); (try clear hi); (try clear ho0); obtain ⟨Ao127, co127, eo127⟩ := Kd.N_slice HO169.out; subst eo127; obtain ⟨Ao128, co128, eo128⟩ := Kd.N_slice HO172.out; subst eo128) | ((with_reducible refine gate_callee (f := 22) rfl ?_); refine goesL_ (some 155) rfl rfl Try.func22 (by kernel_rfl) rfl #[.slice Ao127 t167.length co127, .slice Ao128 t170.length co128] rfl (by (try simp only [List.map_toArray, List.map_cons, List.map_nil]); first | done | rfl | (simp only [tb_wrap8]; done) | (simp only [tb_wrap8]; rfl) | (simp only [List.length_drop, List.length_take]; rfl)) ?_; (with_reducible refine (matrix_Mul.calls kj79 _ _ t167 _ _ t170 t173 t174 _ ?side1 ?side2 ?side3 ?side4 A87.out).mono ?_); (case side1 => repeat (first | exact (Kd.N_reads' HO169.out).2.2 | (with_reducible refine Kd.C_alloc ?_ _) | (with_reducible refine Kd.C_drewN ?_ _) | (with_reducible refine Kd.C_drew ?_))); (case side2 => exact (Kd.N_reads' HO169.out).2.1); (case side3 => repeat (first | exact (Kd.N_reads' HO172.out).2.2 | (with_reducible refine Kd.C_alloc ?_ _) | (with_reducible refine Kd.C_drewN ?_ _) | (with_reducible refine Kd.C_drew ?_))); (case side4 => exact (Kd.N_reads' HO172.out).2.1); rintro e w129 ⟨v175, rfl, ho0, hb⟩; refine ⟨_, rfl, ?_⟩; have n0_ := Aside0.mk (Kd.N_elder' (by (with_reducible repeat (first | apply Kd.N_alloc | apply Kd.N_drewN | apply Kd.N_drew)); exact HO169.out) (by first | exact Kd.N_base ho0 | exact Kd.S_base ho0) hb); have n1_ := Aside0.mk (Kd.N_elder' (by (with_reducible repeat (first | apply Kd.N_alloc | apply Kd.N_drewN | apply Kd.N_drew)); exact HO172.out) (by first | exact Kd.N_base ho0 | exact Kd.S_base ho0) hb); have n2_ := Aside0.mk (Kd.N_lower (Kd.N_mono (ok' := fun k_ => some k_ ≠ (.slice Ao127 t167.length co127 : Value).ownBlock ∧ some k_ ≠ (.slice Ao128 t170.length co128 : Value).ownBlock) (Kd.S_N (Kd.S_bound ho0)) (fun k_ hk_ => ⟨(Kd.fresh' (Kd.N_lt (by (with_reducible repeat (first | apply Kd.N_alloc | apply Kd.N_drewN | apply Kd.N_drew)); exact HO169.out)) k_ hk_.2.1), (Kd.fresh' (Kd.N_lt (by (with_reducible repeat (first | apply Kd.N_alloc | apply Kd.N_drewN | apply Kd.N_drew)); exact HO172.out)) k_ hk_.2.1)⟩)) (below_size (by repeat (first | (with_reducible first | exact HB.out | apply below_alloc | apply pw_below_drewN | apply below_drew1) | exact HB.out)))); have n3_ := Aside0.mk (below_step (by repeat (first | (with_reducible first | exact HB.out | apply below_alloc | apply pw_below_drewN | apply below_drew1) | exact HB.out)) hb); clear HO169; clear HO172; clear HB; have HO169 := n0_; have HO172 := n1_; have HO176 := n2_; have HB := n3_; clear n0_ n1_ n2_ n3_; (try clear hb); (try clear hb2); (try clear hk); (try clear hi); (try clear ho0)))
                                            go_ret
                                            exact ⟨by first | rfl | (simp [errW_none, errW_some] <;> rfl) | (simp [*, errW_none, errW_some] <;> rfl), by repeat (first | (with_reducible first | exact HB.out | apply below_alloc | apply pw_below_drewN | apply below_drew1) | exact HB.out)⟩
                                  · rw [if_neg c79] at H
                                    have c79b0 : (x11_5 == t128) = false := beq_eq_false_iff_ne.mpr c79
                                    have c79b1 : (x11_5 != t128) = true := bne_iff_ne.mpr c79
                                    obtain rfl := Option.some.inj H
                                    go_wp2
                                    go_ret
                                    exact ⟨by first | rfl | (simp [errW_none, errW_some] <;> rfl) | (simp [*, errW_none, errW_some] <;> rfl), by repeat (first | (with_reducible first | exact HB.out | apply below_alloc | apply pw_below_drewN | apply below_drew1) | exact HB.out)⟩
/-- THE ONE PURE STATEMENT of culletlaw10_MatrixDeterminant. -/
def culletlaw10_MatrixDeterminant.Pure : Prop := ∀ (l0 : List (List Int)) (l1 : List (List Int)), (fun l : List (List Int) => l.length * 24 ≤ 140737488351232 ∧ ∀ x ∈ l, (fun l : List Int => l.length * 1 ≤ 140737488351232 ∧ ∀ x ∈ l, (fun x : Int => (Lit.int .u8 x).wf = true) x) x) l0 → (fun l : List (List Int) => l.length * 24 ≤ 140737488351232 ∧ ∀ x ∈ l, (fun l : List Int => l.length * 1 ≤ 140737488351232 ∧ ∀ x ∈ l, (fun x : Int => (Lit.int .u8 x).wf = true) x) x) l1 → ∃ k, culletlaw10_MatrixDeterminant.f k l0 l1 = some true
theorem culletlaw10_MatrixDeterminant.walk (P : culletlaw10_MatrixDeterminant.Pure) (w : World) (l0 : List (List Int)) (A0_ : Option Addr) (c0_ : Nat) (l1 : List (List Int)) (A1_ : Option Addr) (c1_ : Nat) (hr0 : Kd.C (Kd.slice 5 (Kd.int .u8)) w A0_ l0.length l0) (hc0 : l0.length ≤ c0_) (hr1 : Kd.C (Kd.slice 5 (Kd.int .u8)) w A1_ l1.length l1) (hc1 : l1.length ≤ c1_) (w0 : (fun l : List (List Int) => l.length * 24 ≤ 140737488351232 ∧ ∀ x ∈ l, (fun l : List Int => l.length * 1 ≤ 140737488351232 ∧ ∀ x ∈ l, (fun x : Int => (Lit.int .u8 x).wf = true) x) x) l0) (w1 : (fun l : List (List Int) => l.length * 24 ≤ 140737488351232 ∧ ∀ x ∈ l, (fun l : List Int => l.length * 1 ≤ 140737488351232 ∧ ∀ x ∈ l, (fun x : Int => (Lit.int .u8 x).wf = true) x) x) l1) :
    Calls Try.prog 5 #[.slice A0_ l0.length c0_, .slice A1_ l1.length c1_] w fun e w' => e = .returned (.bool true) ∧ Below w.heap.size w w' := by
  obtain ⟨k, h⟩ := P l0 l1 w0 w1
  refine (culletlaw10_MatrixDeterminant.calls k A0_ c0_ l0 A1_ c1_ l1 true w hr0 hc0 hr1 hc1 h).mono ?_
  rintro e w' ⟨rfl, hd⟩
  exact ⟨rfl, hd⟩

end Go.Proofs.Ytidogckochpbgaa.Q
