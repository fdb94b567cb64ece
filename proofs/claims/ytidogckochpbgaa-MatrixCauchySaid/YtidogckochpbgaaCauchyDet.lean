/- Cauchy's determinant. -/
import Derived.Test.YtidogckochpbgaaVdm
namespace LA
set_option linter.unusedVariables false
set_option linter.unusedSectionVars false
open Fld
variable {F : Type} [Fld F]
theorem D_elim (p : Nat → F) (f : Nat → Nat → F) (a : Nat → F) : ∀ (rs : List Nat) (cs : List Nat), D (p :: rs.map (fun r c => f r c + a r * p c)) cs = D (p :: rs.map f) cs := by
  intro rs
  induction rs with
  | nil => intro cs; rfl
  | cons r rs ih =>
    intro cs
    show D (p :: (fun c => f r c + a r * p c) :: rs.map (fun r c => f r c + a r * p c)) cs = D (p :: f r :: rs.map f) cs
    rw [D_swap, D_add_row, D_swap p]
    show pk (fun c rest => f r c * D (p :: rs.map (fun r c => f r c + a r * p c)) rest) cs = pk (fun c rest => f r c * D (p :: rs.map f) rest) cs
    exact pk_congr (fun y ys _ => by rw [ih])
theorem D_scale_rows (a : Nat → F) (f : Nat → Nat → F) : ∀ (rs : List Nat) (cs : List Nat), D (rs.map fun r c => a r * f r c) cs = pr a rs * D (rs.map f) cs := by
  intro rs
  induction rs with
  | nil => intro cs; exact (one_mul _).symm
  | cons r rs ih =>
    intro cs
    show pk (fun c rest => (a r * f r c) * D (rs.map fun r c => a r * f r c) rest) cs = a r * pr a rs * pk (fun c rest => f r c * D (rs.map f) rest) cs
    rw [← pk_mul]
    exact pk_congr (fun y ys _ => by rw [ih]; ac_rfl)
theorem pr_mul (f g : Nat → F) : ∀ l, pr (fun i => f i * g i) l = pr f l * pr g l := by
  intro l
  induction l with
  | nil => exact (one_mul _).symm
  | cons x xs ih =>
    show f x * g x * pr (fun i => f i * g i) xs = f x * pr f xs * (g x * pr g xs)
    rw [ih]; ac_rfl
theorem pr_congr {f g : Nat → F} : ∀ {l : List Nat}, (∀ x, x ∈ l → f x = g x) → pr f l = pr g l := by
  intro l
  induction l with
  | nil => intro _; rfl
  | cons x xs ih =>
    intro h
    show f x * _ = g x * _
    rw [h x (List.mem_cons_self ..), ih (fun y hy => h y (List.mem_cons_of_mem _ hy))]
theorem pr_one : ∀ l : List Nat, pr (fun _ => (1 : F)) l = 1 := by
  intro l
  induction l with
  | nil => rfl
  | cons x xs ih => show 1 * pr (fun _ => (1 : F)) xs = 1; rw [ih, one_mul]
/-- Cauchy: times the product of all sums it is the product of all differences. -/
theorem D_cauchy (x y : Nat → F) : ∀ (is cs : List Nat), is.length = cs.length → (∀ i, i ∈ is → ∀ c, c ∈ cs → x i + y c ≠ 0) →
    D (is.map (fun i c => iv (x i + y c))) cs * pr (fun i => pr (fun c => x i + y c) cs) is = P x is * P y cs := by
  intro is
  induction is with
  | nil =>
    intro cs h _
    obtain rfl : cs = [] := List.length_eq_zero_iff.1 h.symm
    rfl
  | cons i is ih =>
    intro cs h h0
    cases cs with
    | nil => simp at h
    | cons c cs =>
      have hic : x i + y c ≠ 0 := h0 i (List.mem_cons_self ..) c (List.mem_cons_self ..)
      have hrc : ∀ r, r ∈ is → x r + y c ≠ 0 := fun r hr => h0 r (List.mem_cons_of_mem _ hr) c (List.mem_cons_self ..)
      have hid : ∀ d, d ∈ cs → x i + y d ≠ 0 := fun d hd => h0 i (List.mem_cons_self ..) d (List.mem_cons_of_mem _ hd)
      have hrd : ∀ r, r ∈ is → ∀ d, d ∈ cs → x r + y d ≠ 0 := fun r hr d hd => h0 r (List.mem_cons_of_mem _ hr) d (List.mem_cons_of_mem _ hd)
      have IH := ih cs (by simpa using h) hrd
      have hl : is.length = cs.length := by simpa using h
      -- one row's step
      have key : ∀ r, r ∈ is → ∀ d, d ∈ cs → iv (x r + y d) + ((x i + y c) * iv (x r + y c)) * iv (x i + y d) = ((x r + x i) * iv (x r + y c)) * (((y d + y c) * iv (x i + y d)) * iv (x r + y d)) := by
        intro r hr d hd
        have e : (x r + y c) * (x i + y d) + (x i + y c) * (x r + y d) = (x r + x i) * (y d + y c) := by
          simp only [add_mul, Fld.mul_add]
          have e1 : x i * y d + x r * y d = x r * y d + x i * y d := Fld.add_comm _ _
          rw [show x r * x i + y c * x i + (x r * y d + y c * y d) + (x i * x r + y c * x r + (x i * y d + y c * y d)) = (x r * x i + x r * x i) + (y c * y d + y c * y d) + (x r * y d + x i * y d + (x r * y c + x i * y c)) by
            rw [Fld.mul_comm (x i) (x r), Fld.mul_comm (y c) (x r), Fld.mul_comm (y c) (x i)]; ac_rfl]
          rw [Fld.add_self, Fld.add_self, Fld.add_zero, zero_add]
        have e2 : iv (x r + y d) = (x r + y c) * (x i + y d) * (iv (x r + y c) * iv (x i + y d) * iv (x r + y d)) := by
          rw [show (x r + y c) * (x i + y d) * (iv (x r + y c) * iv (x i + y d) * iv (x r + y d)) = ((x r + y c) * iv (x r + y c)) * ((x i + y d) * iv (x i + y d)) * iv (x r + y d) by ac_rfl, Fld.mul_iv _ (hrc r hr), Fld.mul_iv _ (hid d hd), one_mul, one_mul]
        have e3 : ((x i + y c) * iv (x r + y c)) * iv (x i + y d) = (x i + y c) * (x r + y d) * (iv (x r + y c) * iv (x i + y d) * iv (x r + y d)) := by
          rw [show (x i + y c) * (x r + y d) * (iv (x r + y c) * iv (x i + y d) * iv (x r + y d)) = ((x r + y d) * iv (x r + y d)) * (((x i + y c) * iv (x r + y c)) * iv (x i + y d)) by ac_rfl, Fld.mul_iv _ (hrd r hr d hd), one_mul]
        rw [e3]
        rw [show iv (x r + y d) + (x i + y c) * (x r + y d) * (iv (x r + y c) * iv (x i + y d) * iv (x r + y d)) = (x r + y c) * (x i + y d) * (iv (x r + y c) * iv (x i + y d) * iv (x r + y d)) + (x i + y c) * (x r + y d) * (iv (x r + y c) * iv (x i + y d) * iv (x r + y d)) by rw [← e2]]
        rw [← add_mul, e]
        ac_rfl
      have keyc : ∀ r, r ∈ is → iv (x r + y c) + ((x i + y c) * iv (x r + y c)) * iv (x i + y c) = 0 := by
        intro r hr
        rw [show ((x i + y c) * iv (x r + y c)) * iv (x i + y c) = ((x i + y c) * iv (x i + y c)) * iv (x r + y c) by ac_rfl, Fld.mul_iv _ hic, one_mul, Fld.add_self]
      have e1 : D ((i :: is).map (fun i c => iv (x i + y c))) (c :: cs) = iv (x i + y c) * (pr (fun r => (x r + x i) * iv (x r + y c)) is * (pr (fun d => (y d + y c) * iv (x i + y d)) cs * D (is.map (fun i c => iv (x i + y c))) cs)) := by
        rw [List.map_cons, ← D_elim (fun c => iv (x i + y c)) (fun i c => iv (x i + y c)) (fun r => (x i + y c) * iv (x r + y c)), D_col _ _ _ (by simp [hl])]
        show iv (x i + y c) * D (is.map fun r d => iv (x r + y d) + ((x i + y c) * iv (x r + y c)) * iv (x i + y d)) cs + pk _ _ = _
        rw [pk_none (fun z zs hp => by
          have hz := hp.mem_iff.1 (List.mem_cons_self ..)
          obtain ⟨r, hr, rfl⟩ := List.mem_map.1 hz
          show (iv (x r + y c) + ((x i + y c) * iv (x r + y c)) * iv (x i + y c)) * _ = 0
          rw [keyc r hr, zero_mul]), Fld.add_zero]
        congr 1
        rw [D_congr (rs' := is.map fun r d => ((x r + x i) * iv (x r + y c)) * (((y d + y c) * iv (x i + y d)) * iv (x r + y d))) (by simp) (fun k hk hk' d hd => by
          simp only [List.length_map] at hk
          simp only [List.getElem_map]
          exact key _ (List.getElem_mem hk) d hd)]
        rw [D_scale_rows (fun r => (x r + x i) * iv (x r + y c)) (fun r d => ((y d + y c) * iv (x i + y d)) * iv (x r + y d))]
        congr 1
        have := D_scale_cols (fun d => (y d + y c) * iv (x i + y d)) (is.map (fun i c => iv (x i + y c))) cs (by simpa using hl)
        rw [List.map_map] at this
        exact this
      rw [e1]
      show _ * (((x i + y c) * pr (fun c => x i + y c) cs) * pr (fun r => (x r + y c) * pr (fun c => x r + y c) cs) is) = (pr (fun d => x d + x i) is * P x is) * (pr (fun d => y d + y c) cs * P y cs)
      rw [pr_mul (fun r => x r + x i) (fun r => iv (x r + y c)), pr_mul (fun d => y d + y c) (fun d => iv (x i + y d)), pr_mul (fun r => x r + y c)]
      have a1 : pr (fun r => iv (x r + y c)) is * pr (fun r => x r + y c) is = 1 := by
        rw [← pr_mul, pr_congr (g := fun _ => 1) (fun r hr => iv_mul (hrc r hr)), pr_one]
      have a2 : pr (fun d => iv (x i + y d)) cs * pr (fun d => x i + y d) cs = 1 := by
        rw [← pr_mul, pr_congr (g := fun _ => 1) (fun d hd => iv_mul (hid d hd)), pr_one]
      have a3 : iv (x i + y c) * (x i + y c) = 1 := iv_mul hic
      generalize pr (fun r => iv (x r + y c)) is = p1 at a1 ⊢
      generalize pr (fun r => x r + y c) is = p2 at a1 ⊢
      generalize pr (fun d => iv (x i + y d)) cs = p3 at a2 ⊢
      generalize pr (fun d => x i + y d) cs = p4 at a2 ⊢
      generalize iv (x i + y c) = p5 at a3 ⊢
      generalize x i + y c = p6 at a3 ⊢
      generalize D (is.map (fun i c => iv (x i + y c))) cs = d at IH ⊢
      generalize pr (fun r => pr (fun c => x r + y c) cs) is = p7 at IH ⊢
      generalize pr (fun d => x d + x i) is = p8
      generalize pr (fun d => y d + y c) cs = p9
      rw [show p8 * P x is * (p9 * P y cs) = p8 * p9 * (P x is * P y cs) by ac_rfl, ← IH]
      rw [show p5 * (p8 * p1 * (p9 * p3 * d)) * (p6 * p4 * (p2 * p7)) = (p5 * p6) * (p1 * p2) * (p3 * p4) * (p8 * p9 * (d * p7)) by ac_rfl, a1, a2, a3, one_mul, one_mul, one_mul]
/-- Of n rows and columns, told by the order of the loops. -/
theorem det_cauchy (n : Nat) (x y : Nat → F) (h : ∀ i j, i < n → j < n → x i + y j ≠ 0) :
    det n (fun i j => iv (x i + y j)) * pr (fun i => pr (fun c => x i + y c) (List.range n)) (List.range n) = W x n * W y n := by
  have hp := List.reverse_perm (List.range n)
  have := D_cauchy x y (List.range n).reverse (List.range n).reverse rfl (fun i hi c hc => h i c (by simpa using hi) (by simpa using hc))
  rw [pr_perm hp, pr_congr (fun i _ => pr_perm (g := fun c => x i + y c) hp), D_cols hp, D_rows (hp.map _)] at this
  exact this
end LA
