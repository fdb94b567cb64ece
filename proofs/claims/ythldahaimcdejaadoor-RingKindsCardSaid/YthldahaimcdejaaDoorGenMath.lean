/- The generators of the two families over a field: any k of their rows make all others, by Lagrange's factors. -/
import Derived.Test.YthldahaimcdejaaDoorLagr
import Derived.Test.YthldahaimcdejaaDoorLinRed

namespace LA
set_option linter.unusedVariables false
set_option linter.unusedSectionVars false
open Fld
variable {F : Type} [Fld F]
/-- The weight of shard s. -/
def wt (cau : Bool) (pt : Nat → F) (k s : Nat) : F := if cau then top k pt s (pt s) else 1
/-- The generator. -/
def gm (cau : Bool) (pt : Nat → F) (k s i : Nat) : F := if s < k then one s i else if cau then iv (pt s + pt i) else lag k pt i (pt s)
/-- The decoder's rows. -/
def dm (cau : Bool) (pt : Nat → F) (k : Nat) (us : Nat → Nat) (s i : Nat) : F := lag k (fun i => pt (us i)) i (pt s) * wt cau pt k (us i) * iv (wt cau pt k s)
section
variable {pt : Nat → F} {n k : Nat} (hp : ∀ i j, i < n → j < n → pt i = pt j → i = j) (hk : k ≤ n)
include hp hk
theorem lag_unit {c s : Nat} (hc : c < k) (hs : s < k) : lag k pt c (pt s) = one s c := by
  unfold lag one
  by_cases e : s = c
  · subst e
    rw [if_pos rfl, Fld.mul_iv _ (top_ne (fun i j hi hj => hp i j (by omega) (by omega)) hs)]
  · rw [if_neg e, top_at hs e, zero_mul]
end
/-- Vandermonde's square has an inverse. -/
theorem vdm_ne {pt : Nat → F} {k : Nat} (hp : ∀ i j, i < k → j < k → pt i = pt j → i = j) : det k (fun s c => px (pt s) c) ≠ 0 := by
  have key : ∀ i, i < k → ∃ a : Nat → F, ∀ x, lag k pt i x = ev k a x := fun i hi => by
    have ht := top_isP pt i k
    rw [if_pos hi] at ht
    exact ht.mul_right _
  have h : det k (fun c s => px (pt s) c) ≠ 0 := by
    refine det_of_inv (X := fun i => if h : i < k then Classical.choose (key i h) else fun _ => 0) (fun i s hi hs => ?_)
    show sm k (fun c => (if h : i < k then Classical.choose (key i h) else fun _ => 0) c * px (pt s) c) = _
    rw [dif_pos hi]
    have := Classical.choose_spec (key i hi) (pt s)
    unfold ev at this
    refine this.symm.trans ?_
    rw [lag_unit hp (Nat.le_refl _) hi hs]
    unfold one
    by_cases e : s = i
    · rw [if_pos e, if_pos e.symm]
    · rw [if_neg e, if_neg (fun h => e h.symm)]
  intro h0
  exact h (by rw [← h0]; exact det_transpose k (fun s c => px (pt s) c))
end LA
