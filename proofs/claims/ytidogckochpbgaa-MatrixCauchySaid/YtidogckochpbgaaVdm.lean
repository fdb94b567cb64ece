/- Vandermonde's determinant. -/
import Derived.Test.YtidogckochpbgaaL1
namespace LA
set_option linter.unusedVariables false
set_option linter.unusedSectionVars false
open Fld
variable {F : Type} [Fld F]
/-- The product of g over a list. -/
def pr (g : Nat → F) : List Nat → F
  | [] => 1
  | c :: cs => g c * pr g cs
theorem pr_perm {g : Nat → F} {l m : List Nat} (h : l.Perm m) : pr g l = pr g m := by
  induction h with
  | nil => rfl
  | cons x _ ih => show g x * _ = g x * _; rw [ih]
  | swap x y l => exact mul_left_comm _ _ _
  | trans _ _ h1 h2 => exact h1.trans h2
theorem D_scale_cols (g : Nat → F) : ∀ (rs : List (Nat → F)) (cs : List Nat), rs.length = cs.length → D (rs.map fun r d => g d * r d) cs = pr g cs * D rs cs := by
  intro rs
  induction rs with
  | nil =>
    intro cs h
    obtain rfl : cs = [] := List.length_eq_zero_iff.1 h.symm
    exact (Fld.mul_one _).symm
  | cons r rs ih =>
    intro cs h
    show pk (fun c rest => (g c * r c) * D (rs.map fun r d => g d * r d) rest) cs = pr g cs * pk (fun c rest => r c * D rs rest) cs
    rw [← pk_mul]
    apply pk_congr
    intro y ys hp
    have hl := hp.length_eq
    simp only [List.length_cons] at hl h
    rw [ih ys (by omega), ← pr_perm hp]
    show g y * r y * (pr g ys * D rs ys) = g y * pr g ys * (r y * D rs ys)
    ac_rfl
/-- Each row but the first gets a times its neighbour above. -/
def ch (a : F) : (Nat → F) → List (Nat → F) → List (Nat → F)
  | _, [] => []
  | p, r :: rs => (fun c => r c + a * p c) :: ch a r rs
theorem D_chain (a : F) : ∀ (rs : List (Nat → F)) (p : Nat → F) (cs : List Nat), D (p :: ch a p rs) cs = D (p :: rs) cs := by
  intro rs
  induction rs with
  | nil => intro p cs; rfl
  | cons r rs ih =>
    intro p cs
    show D (p :: (fun c => r c + a * p c) :: ch a r rs) cs = _
    rw [D_swap, D_add_row, D_swap]
    show pk (fun c rest => p c * D (r :: ch a r rs) rest) cs = pk (fun c rest => p c * D (r :: rs) rest) cs
    exact pk_congr (fun y ys _ => by rw [ih])
/-- The powers: row j, column c: x c to the j. -/
def vr (x : Nat → F) : Nat → Nat → F
  | 0 => fun _ => 1
  | j + 1 => fun c => vr x j c * x c
theorem ch_vr (x : Nat → F) (a : F) : ∀ n s, ch a (vr x s) ((List.range' (s + 1) n).map (vr x)) = (List.range' s n).map (fun j c => vr x (j + 1) c + a * vr x j c) := by
  intro n
  induction n with
  | zero => intro s; rfl
  | succ n ih =>
    intro s
    rw [List.range'_succ, List.map_cons, List.range'_succ, List.map_cons]
    show _ :: _ = _ :: _
    rw [ih (s + 1)]
/-- The product of all differences. -/
def P (x : Nat → F) : List Nat → F
  | [] => 1
  | c :: cs => pr (fun d => x d + x c) cs * P x cs
theorem D_vr (x : Nat → F) : ∀ cs : List Nat, D ((List.range' 0 cs.length).map (vr x)) cs = P x cs := by
  intro cs
  induction cs with
  | nil => rfl
  | cons c cs ih =>
    rw [List.length_cons, List.range'_succ, List.map_cons, ← D_chain (x c), ch_vr]
    have e : (List.range' 0 cs.length).map (fun j d => vr x (j + 1) d + x c * vr x j d) = ((List.range' 0 cs.length).map (vr x)).map (fun r d => (x d + x c) * r d) := by
      rw [List.map_map]
      apply List.map_congr_left
      intro j _
      funext d
      show vr x j d * x d + x c * vr x j d = (x d + x c) * vr x j d
      rw [add_mul, Fld.mul_comm (vr x j d)]
    rw [e, D_col _ _ _ (by simp)]
    show vr x 0 c * D (((List.range' 0 cs.length).map (vr x)).map (fun r d => (x d + x c) * r d)) cs + pk _ _ = _
    rw [pk_none (fun y ys hp => by
      have hy : y ∈ ((List.range' 0 cs.length).map (vr x)).map (fun r d => (x d + x c) * r d) := hp.mem_iff.1 (List.mem_cons_self ..)
      obtain ⟨r, -, rfl⟩ := List.mem_map.1 hy
      show (x c + x c) * r c * _ = 0
      rw [Fld.add_self, zero_mul, zero_mul]), Fld.add_zero, D_scale_cols _ _ _ (by simp), ih]
    exact one_mul _
/-- The product of all differences of the first k, as the loops take it. -/
def W (x : Nat → F) (k : Nat) : F := P x (List.range k).reverse
/-- The product of the differences of x i and the first j. -/
def Wi (x : Nat → F) (i j : Nat) : F := pr (fun d => x d + x i) (List.range j).reverse
theorem rev_succ (k : Nat) : (List.range (k + 1)).reverse = k :: (List.range k).reverse := by
  rw [List.range_succ, List.reverse_append]; rfl
theorem W_zero (x : Nat → F) : W x 0 = 1 := rfl
theorem W_succ (x : Nat → F) (k : Nat) : W x (k + 1) = W x k * Wi x k k := by
  unfold W
  rw [rev_succ]
  exact Fld.mul_comm _ _
theorem Wi_zero (x : Nat → F) (i : Nat) : Wi x i 0 = 1 := rfl
theorem Wi_succ (x : Nat → F) (i j : Nat) : Wi x i (j + 1) = Wi x i j * (x i + x j) := by
  unfold Wi
  rw [rev_succ]
  show (x j + x i) * _ = _
  rw [Fld.mul_comm, Fld.add_comm (x j)]
theorem det_vdm (k : Nat) (x : Nat → F) : det k (fun i j => vr x j i) = W x k := by
  rw [det_transpose]
  unfold det W
  rw [D_cols (List.reverse_perm (List.range k)).symm, ← D_vr, List.length_reverse, List.length_range, List.range_eq_range']
end LA
