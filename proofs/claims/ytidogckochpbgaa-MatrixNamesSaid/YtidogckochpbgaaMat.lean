/- Matrices as lists of lists, told by a function of row and column. -/
import Derived.Test.YtidogckochpbgaaQx0
namespace Go.Proofs.Ytidogckochpbgaa.R
open Go.RowKit Go.Proofs.YtidogckochpbgaaW.PrintWords Go.Proofs.YtidogckochpbgaaW.PrintLast Go.Proofs.YtidogckochpbgaaW.PrintMore Go.Proofs.Ytidogckochpbgaa.Q
set_option linter.unusedVariables false
set_option linter.unusedSimpArgs false

/-- A row of numbers. -/
def rowOf (c : Nat) (g : Nat → Nat) : List Int := (List.range c).map fun j => ((g j : Nat) : Int)
/-- The matrix of r rows and c columns whose element (i, j) is g i j. -/
def mat (r c : Nat) (g : Nat → Nat → Nat) : List (List Int) := (List.range r).map fun i => rowOf c (g i)
theorem rowOf_len (c : Nat) (g : Nat → Nat) : (rowOf c g).length = c := by simp [rowOf]
theorem mat_len (r c : Nat) (g : Nat → Nat → Nat) : (mat r c g).length = r := by simp [mat]
theorem rowOf_get {c j : Nat} (h : j < c) (g : Nat → Nat) : rd (rowOf c g) (j : Int) = ((g j : Nat) : Int) := by
  unfold rd rowOf
  rw [Int.toNat_natCast, List.getD_eq_getElem?_getD, List.getElem?_map, List.getElem?_range h]
  rfl
theorem mat_row {r i : Nat} (h : i < r) (c : Nat) (g : Nat → Nat → Nat) : rd_L1 (mat r c g) (i : Int) = rowOf c (g i) := by
  unfold rd_L1 mat
  rw [Int.toNat_natCast, List.getD_eq_getElem?_getD, List.getElem?_map, List.getElem?_range h]
  rfl
theorem rowOf_congr {c : Nat} {f g : Nat → Nat} (h : ∀ j, j < c → f j = g j) : rowOf c f = rowOf c g := by
  unfold rowOf
  apply List.map_congr_left
  intro j hj
  rw [h j (List.mem_range.1 hj)]
theorem mat_congr {r c : Nat} {f g : Nat → Nat → Nat} (h : ∀ i j, i < r → j < c → f i j = g i j) : mat r c f = mat r c g := by
  unfold mat
  apply List.map_congr_left
  intro i hi
  exact rowOf_congr (fun j hj => h i j (List.mem_range.1 hi) hj)
theorem rowOf_set {c j : Nat} (g : Nat → Nat) (v : Nat) : (rowOf c g).set j ((v : Nat) : Int) = rowOf c (fun b => if b = j then v else g b) := by
  apply List.ext_getElem?
  intro k
  rw [List.getElem?_set]
  unfold rowOf
  by_cases hk : k < c
  · rw [List.getElem?_map, List.getElem?_map, List.getElem?_range hk]
    by_cases e : j = k
    · subst e
      simp [hk]
    · simp [e, Ne.symm e]
  · rw [List.getElem?_map, List.getElem?_map, List.getElem?_eq_none (by simpa using hk)]
    simp [hk]
    intro e; omega
theorem mat_set {r c i : Nat} (hi : i < r) (g : Nat → Nat → Nat) (f : Nat → Nat) : (mat r c g).set i (rowOf c f) = mat r c (fun a => if a = i then f else g a) := by
  apply List.ext_getElem?
  intro k
  rw [List.getElem?_set]
  unfold mat
  by_cases hk : k < r
  · rw [List.getElem?_map, List.getElem?_map, List.getElem?_range hk]
    by_cases e : i = k
    · subst e
      simp [hk]
    · simp [e, Ne.symm e]
  · rw [List.getElem?_map, List.getElem?_map, List.getElem?_eq_none (by simpa using hk)]
    simp [hk]
    intro e; omega
/-- A store into one element. -/
theorem mat_put {r c i : Nat} (hi : i < r) (j : Nat) (g : Nat → Nat → Nat) (v : Nat) : (mat r c g).set i ((rd_L1 (mat r c g) (i : Int)).set j ((v : Nat) : Int)) = mat r c (fun a b => if a = i ∧ b = j then v else g a b) := by
  rw [mat_row hi, rowOf_set, mat_set hi]
  apply mat_congr
  intro a b _ _
  by_cases e : a = i
  · subst e; simp
  · simp [e]
theorem replicate_mat (r c : Nat) : List.replicate r (List.replicate c (0 : Int)) = mat r c (fun _ _ => 0) := by
  unfold mat rowOf
  simp [List.map_const']
end Go.Proofs.Ytidogckochpbgaa.R
