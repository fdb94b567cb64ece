/- The null vectors of a reduced form. -/
import Derived.Test.YtidogckochpbgaaL1
namespace LA
set_option linter.unusedVariables false
set_option linter.unusedSectionVars false
open Fld
variable {F : Type} [Fld F]
/-- The null vector of column f, its first r pivots told. -/
def nvTo (R : Nat → Nat → F) (ps : List Nat) (f r : Nat) : Nat → F := fun j => if j = f then 1 else sm r (fun i => if ps.getD i 0 = j then R i f else 0)
theorem getD_eq {ps : List Nat} {i : Nat} (h : i < ps.length) : ps.getD i 0 = ps[i] := by
  rw [List.getD_eq_getElem?_getD, List.getElem?_eq_getElem h]; rfl
section
variable {m w : Nat} {R : Nat → Nat → F} {ps : List Nat}
theorem Red.rise' (h : Red m w w R ps) {i j : Nat} (hij : i < j) (hj : j < ps.length) : ps.getD i 0 < ps.getD j 0 := by
  rw [getD_eq (by omega), getD_eq hj]
  exact List.pairwise_iff_getElem.1 h.rise i j (by omega) hj hij
theorem Red.below' (h : Red m w w R ps) {i : Nat} (hi : i < ps.length) : ps.getD i 0 < w := by
  rw [getD_eq hi]; exact h.below _ (List.getElem_mem hi)
theorem Red.inj' (h : Red m w w R ps) {i j : Nat} (hi : i < ps.length) (hj : j < ps.length) (e : ps.getD i 0 = ps.getD j 0) : i = j := by
  by_cases h1 : i < j
  · have := h.rise' h1 hj; omega
  · by_cases h2 : j < i
    · have := h.rise' h2 hi; omega
    · omega
theorem Red.lead' (h : Red m w w R ps) {i : Nat} (hi : i < ps.length) : R i (ps.getD i 0) = 1 := by
  rw [getD_eq hi]; exact h.lead i hi
theorem Red.clean' (h : Red m w w R ps) {i a : Nat} (hi : i < ps.length) (ha : a < m) (hne : a ≠ i) : R a (ps.getD i 0) = 0 := by
  rw [getD_eq hi]; exact h.clean i hi a ha hne
theorem Red.left' (h : Red m w w R ps) {i j : Nat} (hi : i < ps.length) (hj : j < ps.getD i 0) : R i j = 0 := by
  rw [getD_eq hi] at hj; exact h.left i hi j hj
/-- The whole null vector. -/
def nv (R : Nat → Nat → F) (ps : List Nat) (f : Nat) : Nat → F := nvTo R ps f ps.length
theorem nvTo_put (h : Red m w w R ps) {f r : Nat} (hf : ∀ i, i < ps.length → ps.getD i 0 ≠ f) (hr : r < ps.length) (j : Nat) :
    (if j = ps.getD r 0 then R r f else nvTo R ps f r j) = nvTo R ps f (r + 1) j := by
  unfold nvTo
  by_cases e : j = ps.getD r 0
  · rw [if_pos e, if_neg (by rw [e]; exact hf r hr)]
    show _ = sm r (fun i => if ps.getD i 0 = j then R i f else 0) + (if ps.getD r 0 = j then R r f else 0)
    rw [sm_none (fun i hi => if_neg (fun e2 => by have := h.inj' (i := i) (j := r) (by omega) hr (e2.trans e); omega)), zero_add, if_pos e.symm]
  · rw [if_neg e]
    by_cases e2 : j = f
    · rw [if_pos e2, if_pos e2]
    · rw [if_neg e2, if_neg e2]
      show _ = sm r (fun i => if ps.getD i 0 = j then R i f else 0) + (if ps.getD r 0 = j then R r f else 0)
      rw [if_neg (fun e3 : ps.getD r 0 = j => e e3.symm), Fld.add_zero]
theorem nv_pivot (h : Red m w w R ps) {f i : Nat} (hf : ∀ i, i < ps.length → ps.getD i 0 ≠ f) (hi : i < ps.length) : nv R ps f (ps.getD i 0) = R i f := by
  unfold nv nvTo
  rw [if_neg (hf i hi), sm_one hi (fun j hj hne => if_neg (fun e => hne (h.inj' hj hi e))), if_pos rfl]
theorem nv_other {f j : Nat} (hj : ∀ i, i < ps.length → ps.getD i 0 ≠ j) : nv R ps f j = if j = f then 1 else 0 := by
  unfold nv nvTo
  by_cases e : j = f
  · rw [if_pos e, if_pos e]
  · rw [if_neg e, if_neg e]
    exact sm_none (fun i hi => if_neg (hj i hi))
/-- A row of the reduced form times a null vector is 0. -/
theorem nv_row (h : Red m w w R ps) {f r : Nat} (hfw : f < w) (hf : ∀ i, i < ps.length → ps.getD i 0 ≠ f) (hr : r < m) : sm w (fun j => R r j * nv R ps f j) = 0 := by
  by_cases hl : r < ps.length
  · rw [sm_split hfw, sm_one (i := ps.getD r 0) (h.below' hl) ?_]
    · rw [if_neg (hf r hl), nv_pivot h hf hl, h.lead' hl, one_mul, nv_other hf, if_pos rfl, Fld.mul_one, Fld.add_self]
    · intro j hj hne
      by_cases e : j = f
      · rw [if_pos e]
      · rw [if_neg e]
        by_cases hp : ∃ i, i < ps.length ∧ ps.getD i 0 = j
        · obtain ⟨i, hi, rfl⟩ := hp
          have : r ≠ i := fun e2 => hne (by rw [e2])
          rw [h.clean' hi hr this, zero_mul]
        · rw [nv_other (fun i hi e2 => hp ⟨i, hi, e2⟩), if_neg e, mul_zero]
  · exact sm_none (fun j hj => by rw [h.rest r j (by omega) hr hj, zero_mul])
/-- So is a row of what the reduced form was made of. -/
theorem nv_of {n : Nat} {A : Nat → Nat → F} (h : Red m w w R ps) (ho : Of w n m A R) {f r : Nat} (hfw : f < w) (hf : ∀ i, i < ps.length → ps.getD i 0 ≠ f) (hr : r < n) : sm w (fun j => A r j * nv R ps f j) = 0 := by
  obtain ⟨X, hX⟩ := ho
  have e : sm w (fun j => A r j * nv R ps f j) = sm w (fun j => sm m (fun k => X r k * (R k j * nv R ps f j))) := by
    apply sm_congr
    intro j hj
    rw [hX r j hr hj]
    show sm m _ * _ = _
    rw [← sm_mul_right]
    exact sm_congr (fun k _ => Fld.mul_assoc _ _ _)
  rw [e, sm_comm]
  exact sm_none (fun k hk => by rw [sm_mul, nv_row h hfw hf hk, mul_zero])
end
/-- q of the rising list's numbers stand below f. -/
def At (ps : List Nat) (q f : Nat) : Prop := q ≤ ps.length ∧ (∀ i, i < q → ps.getD i 0 < f) ∧ ∀ i, q ≤ i → i < ps.length → f ≤ ps.getD i 0
theorem At.start (ps : List Nat) : At ps 0 0 := ⟨Nat.zero_le _, fun i h => absurd h (Nat.not_lt_zero i), fun _ _ _ => Nat.zero_le _⟩
section
variable {m w : Nat} {R : Nat → Nat → F} {ps : List Nat}
theorem At.hit (h : Red m w w R ps) {q f : Nat} (a : At ps q f) (hq : q < ps.length) (e : ps.getD q 0 = f) : At ps (q + 1) (f + 1) :=
  ⟨hq, fun i hi => by by_cases e1 : i = q; (· rw [e1]; omega); (· have := a.2.1 i (by omega); omega),
   fun i hi hl => by have := h.rise' (i := q) (j := i) (by omega) hl; omega⟩
theorem At.miss (h : Red m w w R ps) {q f : Nat} (a : At ps q f) (e : ¬ (q < ps.length ∧ ps.getD q 0 = f)) : At ps q (f + 1) ∧ ∀ i, i < ps.length → ps.getD i 0 ≠ f := by
  have key : ∀ i, q ≤ i → i < ps.length → f < ps.getD i 0 := fun i hi hl => by
    have h1 := a.2.2 q (Nat.le_refl _) (by omega)
    have h2 : ps.getD q 0 ≠ f := fun e2 => e ⟨by omega, e2⟩
    by_cases e1 : i = q
    · rw [e1]; omega
    · have := h.rise' (i := q) (j := i) (by omega) hl; omega
  refine ⟨⟨a.1, fun i hi => by have := a.2.1 i hi; omega, fun i hi hl => key i hi hl⟩, fun i hi => ?_⟩
  by_cases e1 : i < q
  · have := a.2.1 i e1; omega
  · have := key i (by omega) hi; omega
theorem At.all (h : Red m w w R ps) {q : Nat} (a : At ps q w) : q = ps.length := by
  by_cases e : q < ps.length
  · have h1 := a.2.2 q (Nat.le_refl _) e
    have h2 := h.below' e
    omega
  · have := a.1; omega
end
end LA
