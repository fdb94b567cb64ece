/- The determinant along the first row. -/
import Derived.Test.YtidogckochpbgaaL1
namespace LA
set_option linter.unusedVariables false
set_option linter.unusedSectionVars false
open Fld
variable {F : Type} [Fld F]
/-- The sum of g over a list. -/
def ls (g : Nat → F) : List Nat → F
  | [] => 0
  | x :: xs => g x + ls g xs
theorem ls_append (g : Nat → F) : ∀ l m : List Nat, ls g (l ++ m) = ls g l + ls g m := by
  intro l
  induction l with
  | nil => intro m; exact (zero_add _).symm
  | cons x xs ih => intro m; show g x + ls g (xs ++ m) = g x + ls g xs + ls g m; rw [ih, Fld.add_assoc]
theorem ls_congr {g g' : Nat → F} : ∀ {l : List Nat}, (∀ x, x ∈ l → g x = g' x) → ls g l = ls g' l := by
  intro l
  induction l with
  | nil => intro _; rfl
  | cons x xs ih =>
    intro h
    show g x + _ = g' x + _
    rw [h x (List.mem_cons_self ..), ih (fun y hy => h y (List.mem_cons_of_mem _ hy))]
theorem ls_range (g : Nat → F) : ∀ n, ls g (List.range n) = sm n g := by
  intro n
  induction n with
  | zero => rfl
  | succ n ih =>
    rw [List.range_succ, ls_append, ih]
    show _ + (g n + 0) = _
    rw [Fld.add_zero]; rfl
theorem pk_ls : ∀ (l : List Nat) (f : Nat → List Nat → F), l.Nodup → pk f l = ls (fun y => f y (l.erase y)) l := by
  intro l
  induction l with
  | nil => intro f _; rfl
  | cons x xs ih =>
    intro f hn
    obtain ⟨hx, hxs⟩ := List.nodup_cons.1 hn
    show f x xs + pk (fun y ys => f y (x :: ys)) xs = f x ((x :: xs).erase x) + ls (fun y => f y ((x :: xs).erase y)) xs
    rw [List.erase_cons_head, ih _ hxs]
    congr 1
    apply ls_congr
    intro y hy
    have hne : ¬ (x == y) = true := fun e => hx (by rw [beq_iff_eq.1 e]; exact hy)
    rw [List.erase_cons_tail hne]
/-- The columns but one. -/
def skip (i c : Nat) : Nat := if c < i then c else c + 1
theorem skip_perm {n i : Nat} (hi : i < n + 1) : ((List.range (n + 1)).erase i).Perm ((List.range n).map (skip i)) := by
  have h1 : ((List.range (n + 1)).erase i).Nodup := List.nodup_range.erase i
  have h2 : ((List.range n).map (skip i)).Nodup := by
    rw [List.nodup_iff_pairwise_ne, List.pairwise_map]
    refine List.Pairwise.imp ?_ List.nodup_range
    intro a b hab
    unfold skip
    split <;> split <;> omega
  refine (List.perm_ext_iff_of_nodup h1 h2).2 ?_
  intro j
  rw [mem_range_erase, List.mem_map]
  constructor
  · rintro ⟨h3, h4⟩
    by_cases h : j < i
    · exact ⟨j, List.mem_range.2 (by omega), by unfold skip; rw [if_pos h]⟩
    · exact ⟨j - 1, List.mem_range.2 (by omega), by unfold skip; rw [if_neg (by omega)]; omega⟩
  · rintro ⟨c, hc, rfl⟩
    have := List.mem_range.1 hc
    unfold skip
    split <;> omega
/-- Laplace, along the first row. -/
theorem det_laplace (n : Nat) (A : Nat → Nat → F) : det (n + 1) A = sm (n + 1) (fun i => A 0 i * det n (fun r c => A (r + 1) (skip i c))) := by
  have e : (List.range (n + 1)).map A = A 0 :: (List.range n).map (fun r => A (r + 1)) := by
    rw [List.range_succ_eq_map, List.map_cons, List.map_map]; rfl
  show D ((List.range (n + 1)).map A) (List.range (n + 1)) = _
  rw [e]
  show pk (fun c rest => A 0 c * D ((List.range n).map (fun r => A (r + 1))) rest) (List.range (n + 1)) = _
  rw [pk_ls _ _ List.nodup_range, ls_range]
  apply sm_congr
  intro i hi
  rw [D_cols (skip_perm hi), D_rename, List.map_map]
  rfl
end LA
