/- Polynomials over a field with a + a = 0: roots, Lagrange's formula. -/
import Derived.Test.YthldahaimcdejaaDoorLinAlg

namespace LA
set_option linter.unusedVariables false
set_option linter.unusedSectionVars false
open Fld
variable {F : Type} [Fld F]
/-- Powers. -/
def px (x : F) : Nat → F
  | 0 => 1
  | n + 1 => px x n * x
/-- The value of the polynomial with these coefficients, k of them. -/
def ev (k : Nat) (a : Nat → F) (x : F) : F := sm k (fun c => a c * px x c)
/-- f is a polynomial of a degree below k. -/
def IsP (k : Nat) (f : F → F) : Prop := ∃ a : Nat → F, ∀ x, f x = ev k a x
theorem IsP.congr {k : Nat} {f g : F → F} (h : IsP k f) (e : ∀ x, f x = g x) : IsP k g := by
  obtain ⟨a, ha⟩ := h; exact ⟨a, fun x => by rw [← e, ha]⟩
theorem IsP.none {f : F → F} (h : IsP 0 f) (x : F) : f x = 0 := by obtain ⟨a, ha⟩ := h; rw [ha]; rfl
theorem IsP.zero (k : Nat) : IsP k (fun _ => (0 : F)) := ⟨fun _ => 0, fun x => (sm_none (fun i _ => zero_mul _)).symm⟩
theorem IsP.add {k : Nat} {f g : F → F} (hf : IsP k f) (hg : IsP k g) : IsP k (fun x => f x + g x) := by
  obtain ⟨a, ha⟩ := hf
  obtain ⟨b, hb⟩ := hg
  refine ⟨fun c => a c + b c, fun x => ?_⟩
  show f x + g x = sm k (fun c => (a c + b c) * px x c)
  rw [ha, hb]
  unfold ev
  rw [← sm_add]
  exact sm_congr (fun i _ => (add_mul _ _ _).symm)
theorem IsP.mul {k : Nat} {f : F → F} (hf : IsP k f) (c : F) : IsP k (fun x => c * f x) := by
  obtain ⟨a, ha⟩ := hf
  refine ⟨fun i => c * a i, fun x => ?_⟩
  show c * f x = sm k (fun i => c * a i * px x i)
  rw [ha]
  unfold ev
  rw [← sm_mul]
  exact sm_congr (fun i _ => (Fld.mul_assoc _ _ _).symm)
theorem IsP.mul_right {k : Nat} {f : F → F} (hf : IsP k f) (c : F) : IsP k (fun x => f x * c) := (hf.mul c).congr (fun x => Fld.mul_comm _ _)
theorem IsP.sum {k : Nat} : ∀ {n : Nat} {f : Nat → F → F}, (∀ i, i < n → IsP k (f i)) → IsP k (fun x => sm n (fun i => f i x)) := by
  intro n
  induction n with
  | zero => intro f _; exact IsP.zero k
  | succ n ih => intro f h; exact (ih (fun i hi => h i (by omega))).add (h n (by omega))
theorem IsP.const (c : F) {k : Nat} (hk : 0 < k) : IsP k (fun _ => c) := by
  refine ⟨fun i => if i = 0 then c else 0, fun x => ?_⟩
  unfold ev
  rw [sm_one hk (fun j _ hj => by simp only [if_neg hj, zero_mul])]
  simp only [if_true]
  exact (Fld.mul_one c).symm
theorem IsP.up {k m : Nat} {f : F → F} (h : IsP k f) (hkm : k ≤ m) : IsP m f := by
  obtain ⟨a, ha⟩ := h
  refine ⟨fun i => if i < k then a i else 0, fun x => ?_⟩
  rw [ha]
  unfold ev
  obtain ⟨d, rfl⟩ : ∃ d, m = k + d := ⟨m - k, by omega⟩
  rw [sm_append, sm_none (n := d) (fun i _ => by simp only [if_neg (show ¬ k + i < k by omega), zero_mul]), Fld.add_zero]
  exact sm_congr (fun i hi => by simp only [if_pos hi])
/-- x times a polynomial. -/
theorem IsP.shift {k : Nat} {f : F → F} (h : IsP k f) : IsP (k + 1) (fun x => f x * x) := by
  obtain ⟨a, ha⟩ := h
  refine ⟨fun i => if i = 0 then 0 else a (i - 1), fun x => ?_⟩
  unfold ev
  rw [sm_first]
  simp only [if_true, zero_mul, zero_add]
  rw [ha]
  unfold ev
  rw [← sm_mul_right]
  exact sm_congr (fun i _ => by simp only [if_neg (show ¬ i + 1 = 0 by omega), Nat.add_sub_cancel]; rw [px, Fld.mul_assoc])
theorem IsP.lin {k : Nat} {f : F → F} (h : IsP k f) (c : F) : IsP (k + 1) (fun x => f x * (x + c)) :=
  (h.shift.add ((h.mul_right c).up (by omega))).congr (fun x => (Fld.mul_add _ _ _).symm)
/-- The lowest coefficient, and x times the rest. -/
theorem IsP.low {k : Nat} {f : F → F} (h : IsP (k + 1) f) : ∃ (c : F) (g : F → F), IsP k g ∧ ∀ x, f x = c + g x * x := by
  obtain ⟨a, ha⟩ := h
  refine ⟨a 0, ev k (fun i => a (i + 1)), ⟨_, fun x => rfl⟩, fun x => ?_⟩
  rw [ha]
  unfold ev
  rw [sm_first, ← sm_mul_right]
  simp only [px, Fld.mul_one]
  congr 1
  exact sm_congr (fun i _ => by rw [Fld.mul_assoc])
/-- By x + u, with what is left. -/
theorem IsP.divide (u : F) : ∀ {k : Nat} {f : F → F}, IsP (k + 1) f → ∃ g : F → F, IsP k g ∧ ∀ x, f x = f u + (x + u) * g x := by
  intro k
  induction k with
  | zero =>
    intro f h
    obtain ⟨c, g, hg, he⟩ := h.low
    refine ⟨fun _ => 0, IsP.zero 0, fun x => ?_⟩
    rw [he, he, hg.none, hg.none, zero_mul, zero_mul, mul_zero, Fld.add_zero, Fld.add_zero]
  | succ k ih =>
    intro f h
    obtain ⟨c, f1, hf1, he⟩ := h.low
    obtain ⟨g1, hg1, e1⟩ := ih hf1
    refine ⟨fun x => f1 u + g1 x * x, (IsP.const (f1 u) (by omega)).add hg1.shift, fun x => ?_⟩
    rw [he x, he u, e1 x]
    have : ∀ a b x u : F, c + (a + (x + u) * b) * x = c + a * u + (x + u) * (a + b * x) := fun a b x u => by
      rw [add_mul, Fld.mul_add, add_mul x u a, Fld.add_assoc c, Fld.mul_assoc, Fld.mul_comm u a, Fld.mul_comm x a]
      rw [← Fld.add_assoc (a * u), Fld.add_comm (a * u) (a * x + a * u), Fld.add_assoc (a * x), Fld.add_self, Fld.add_zero]
    exact this _ _ _ _
/-- As many unlike roots as its length: it is 0. -/
theorem IsP.roots : ∀ {k : Nat} {f : F → F} {u : Nat → F}, IsP k f → (∀ i j, i < k → j < k → u i = u j → i = j) → (∀ i, i < k → f (u i) = 0) → ∀ x, f x = 0 := by
  intro k
  induction k with
  | zero => intro f u h _ _ x; exact h.none x
  | succ k ih =>
    intro f u h hu hz x
    obtain ⟨g, hg, he⟩ := h.divide (u k)
    rw [hz k (by omega)] at he
    have hg0 := ih hg (fun i j hi hj => hu i j (by omega) (by omega)) (fun i hi => by
      have h1 := hz i (by omega)
      rw [he, zero_add] at h1
      rcases mul_eq_zero.1 h1 with e | e
      · have := hu i k (by omega) (by omega) (eq_of_add e); omega
      · exact e)
    rw [he, hg0, mul_zero, zero_add]
/-- Products. -/
def pm : Nat → (Nat → F) → F
  | 0, _ => 1
  | n + 1, f => pm n f * f n
theorem pm_zero {n i : Nat} (hi : i < n) {f : Nat → F} (h : f i = 0) : pm n f = 0 := by
  induction n with
  | zero => omega
  | succ n ih =>
    show pm n f * f n = 0
    by_cases e : i = n
    · subst e; rw [h, mul_zero]
    · rw [ih (by omega), zero_mul]
theorem pm_ne {n : Nat} {f : Nat → F} (h : ∀ i, i < n → f i ≠ 0) : pm n f ≠ 0 := by
  induction n with
  | zero => exact Fld.one_ne
  | succ n ih => exact mul_ne (ih (fun i hi => h i (by omega))) (h n (by omega))
/-- The product of x + u(l) over l below k but i. -/
def top (k : Nat) (u : Nat → F) (i : Nat) (x : F) : F := pm k (fun l => if l = i then 1 else x + u l)
theorem top_isP (u : Nat → F) (i : Nat) : ∀ k, IsP (if i < k then k else k + 1) (top k u i) := by
  intro k
  induction k with
  | zero => rw [if_neg (by omega)]; exact IsP.const 1 (by omega)
  | succ k ih =>
    by_cases h : i < k
    · rw [if_pos h] at ih
      rw [if_pos (by omega)]
      refine (ih.lin (u k)).congr (fun x => ?_)
      show _ = top k u i x * (if k = i then 1 else x + u k)
      rw [if_neg (by omega)]
    · rw [if_neg h] at ih
      by_cases e : i = k
      · subst e
        rw [if_pos (by omega)]
        refine ih.congr (fun x => ?_)
        show _ = top i u i x * (if i = i then 1 else x + u i)
        rw [if_pos rfl, Fld.mul_one]
      · rw [if_neg (by omega)]
        refine (ih.lin (u k)).congr (fun x => ?_)
        show _ = top k u i x * (if k = i then 1 else x + u k)
        rw [if_neg (by omega)]
theorem top_at {k : Nat} {u : Nat → F} {i j : Nat} (hj : j < k) (h : j ≠ i) : top k u i (u j) = 0 := pm_zero hj (by rw [if_neg h, Fld.add_self])
theorem top_ne {k : Nat} {u : Nat → F} (hu : ∀ i j, i < k → j < k → u i = u j → i = j) {i : Nat} (hi : i < k) : top k u i (u i) ≠ 0 := pm_ne (fun l hl => by
  by_cases e : l = i
  · rw [if_pos e]; exact Fld.one_ne
  · rw [if_neg e]; intro h; exact e (hu l i hl hi (eq_of_add h).symm))
/-- Lagrange's factor. -/
def lag (k : Nat) (u : Nat → F) (i : Nat) (x : F) : F := top k u i x * iv (top k u i (u i))
end LA
