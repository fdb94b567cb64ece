/- Elimination over GF(2)[x] modulo p, as the document's combine does it; the binary greatest common divisor. Plain Lean. -/
import Derived.Test.YthldahaimcdejaaDoorField

set_option linter.unusedVariables false
set_option linter.unusedSimpArgs false
namespace GP
/-- One step: where v has s's highest bit, s is added, and f to u. -/
def cst (e : Nat × Nat) (x : Nat × Nat) : Nat × Nat := if x.1.testBit (bl e.1 - 1) then (x.1 ^^^ e.1, x.2 ^^^ e.2) else x
/-- All steps, the first one first. -/
def crd : List (Nat × Nat) → Nat × Nat → Nat × Nat
  | [], x => x
  | e :: l, x => crd l (cst e x)
theorem crd_append : ∀ (l m : List (Nat × Nat)) (x : Nat × Nat), crd (l ++ m) x = crd m (crd l x) := by
  intro l
  induction l with
  | nil => intro m x; rfl
  | cons e l ih => intro m x; exact ih m (cst e x)
theorem crd_snoc (l : List (Nat × Nat)) (e x : Nat × Nat) : crd (l ++ [e]) x = cst e (crd l x) := by rw [crd_append]; rfl
theorem cst_fst (e x y : Nat × Nat) : (cst e (x.1 ^^^ y.1, x.2 ^^^ y.2)).1 = (cst e x).1 ^^^ (cst e y).1 := by
  unfold cst
  simp only [Nat.testBit_xor]
  have ac1 : x.1 ^^^ y.1 ^^^ e.1 = x.1 ^^^ (y.1 ^^^ e.1) := Nat.xor_assoc _ _ _
  have ac2 : x.1 ^^^ y.1 ^^^ e.1 = x.1 ^^^ e.1 ^^^ y.1 := by rw [Nat.xor_assoc, Nat.xor_comm y.1 e.1, ← Nat.xor_assoc]
  have ac3 : x.1 ^^^ y.1 = x.1 ^^^ e.1 ^^^ (y.1 ^^^ e.1) := by rw [Nat.xor_comm y.1 e.1, ← Nat.xor_assoc, Nat.xor_assoc x.1, Nat.xor_self, Nat.xor_zero]
  cases hx : x.1.testBit (bl e.1 - 1) <;> cases hy : y.1.testBit (bl e.1 - 1) <;> simp only [Bool.xor_false, Bool.xor_true, Bool.false_eq_true, Bool.not_true, Bool.not_false, if_true, if_false] <;> assumption
theorem cst_fst' (e : Nat × Nat) (v u w : Nat) : (cst e (v, u)).1 = (cst e (v, w)).1 := by unfold cst; dsimp only; split <;> rfl
theorem crd_fst' : ∀ (l : List (Nat × Nat)) (v u w : Nat), (crd l (v, u)).1 = (crd l (v, w)).1 := by
  intro l
  induction l with
  | nil => intro v u w; rfl
  | cons e l ih =>
    intro v u w
    have h := cst_fst' e v u w
    show (crd l (cst e (v, u))).1 = (crd l (cst e (v, w))).1
    have e1 : cst e (v, u) = ((cst e (v, u)).1, (cst e (v, u)).2) := rfl
    have e2 : cst e (v, w) = ((cst e (v, w)).1, (cst e (v, w)).2) := rfl
    rw [e1, e2, h]
    exact ih _ _ _
/-- What is left of v. -/
def clv (l : List (Nat × Nat)) (v : Nat) : Nat := (crd l (v, 0)).1
theorem clv_is (l : List (Nat × Nat)) (v u : Nat) : (crd l (v, u)).1 = clv l v := crd_fst' l v u 0
theorem clv_xor : ∀ (l : List (Nat × Nat)) (v w : Nat), clv l (v ^^^ w) = clv l v ^^^ clv l w := by
  intro l
  induction l with
  | nil => intro v w; rfl
  | cons e l ih =>
    intro v w
    have h := cst_fst e (v, 0) (w, 0)
    have key : ∀ z, clv (e :: l) z = clv l (cst e (z, 0)).1 := fun z => by
      show (crd l (cst e (z, 0))).1 = _
      have e1 : cst e (z, 0) = ((cst e (z, 0)).1, (cst e (z, 0)).2) := rfl
      rw [e1]; exact clv_is _ _ _
    have h' : (cst e (v ^^^ w, 0)).1 = (cst e (v, 0)).1 ^^^ (cst e (w, 0)).1 := by
      rw [← h]; exact cst_fst' _ _ _ _
    rw [key, key, key, ← ih, h']
theorem clv_zero (l : List (Nat × Nat)) : clv l 0 = 0 := by
  have := clv_xor l 0 0
  rw [Nat.xor_zero] at this
  have h2 : clv l 0 ^^^ clv l 0 = 0 := Nat.xor_self _
  rw [← this] at h2; exact h2
theorem clv_snoc (l : List (Nat × Nat)) (e : Nat × Nat) (v : Nat) : clv (l ++ [e]) v = (cst e (clv l v, 0)).1 := by
  unfold clv
  rw [crd_snoc]
  have e1 : crd l (v, 0) = ((crd l (v, 0)).1, (crd l (v, 0)).2) := rfl
  rw [e1]; exact cst_fst' _ _ _ _
theorem cst_self {v f : Nat} (h : v ≠ 0) : (cst (v, f) (v, 0)).1 = 0 := by
  unfold cst
  have hb : v.testBit (bl v - 1) = true := top_bit (by have := bl_pos.2 h; omega)
  dsimp only
  rw [if_pos hb, Nat.xor_self]
theorem cst_none (e : Nat × Nat) : (cst e (0, 0)).1 = 0 := by
  unfold cst
  dsimp only
  rw [if_neg (by simp)]
/-- The list keeps: each pair is a factor below 2^n and its product with a modulo p, which is not 0. -/
structure Cmb (a p n : Nat) (l : List (Nat × Nat)) : Prop where
  all : ∀ e ∈ l, e.1 = pmod (cl e.2 a) p ∧ e.2 < 2 ^ n ∧ e.1 ≠ 0
  span : ∀ i, i < n → clv l (pmod (cl (2 ^ i) a) p) = 0
theorem crd_keeps {a p n : Nat} (hp : p ≠ 0) : ∀ (l : List (Nat × Nat)), (∀ e ∈ l, e.1 = pmod (cl e.2 a) p ∧ e.2 < 2 ^ n ∧ e.1 ≠ 0) → ∀ (x : Nat × Nat), x.2 < 2 ^ n →
    (crd l x).2 < 2 ^ n ∧ (crd l x).1 ^^^ pmod (cl (crd l x).2 a) p = x.1 ^^^ pmod (cl x.2 a) p := by
  intro l
  induction l with
  | nil => intro _ x hx; exact ⟨hx, rfl⟩
  | cons e l ih =>
    intro hl x hx
    obtain ⟨h1, h2, -⟩ := hl e (List.mem_cons_self)
    have hstep : (cst e x).2 < 2 ^ n ∧ (cst e x).1 ^^^ pmod (cl (cst e x).2 a) p = x.1 ^^^ pmod (cl x.2 a) p := by
      unfold cst
      split
      · refine ⟨Nat.xor_lt_two_pow hx h2, ?_⟩
        dsimp only
        rw [cl_xor_left, pmod_xor hp, h1]
        rw [Nat.xor_assoc, Nat.xor_comm (pmod (cl x.2 a) p), ← Nat.xor_assoc (pmod (cl e.2 a) p), Nat.xor_self, Nat.zero_xor]
      · exact ⟨hx, rfl⟩
    obtain ⟨i1, i2⟩ := ih (fun e he => hl e (List.mem_cons_of_mem _ he)) (cst e x) hstep.1
    exact ⟨i1, i2.trans hstep.2⟩
theorem Cmb.start (a p : Nat) : Cmb a p 0 [] := ⟨fun e he => (by cases he), fun i hi => by omega⟩
/-- One vector more. -/
theorem Cmb.next {a p n : Nat} (hp : p ≠ 0) {l : List (Nat × Nat)} (h : Cmb a p n l) {v u : Nat} (hx : crd l (pmod (cl (2 ^ n) a) p, 2 ^ n) = (v, u)) :
    Cmb a p (n + 1) (if v = 0 then l else l ++ [(v, u)]) := by
  have up : ∀ e ∈ l, e.1 = pmod (cl e.2 a) p ∧ e.2 < 2 ^ (n + 1) ∧ e.1 ≠ 0 := fun e he => by
    obtain ⟨a1, a2, a3⟩ := h.all e he
    exact ⟨a1, Nat.lt_trans a2 (Nat.pow_lt_pow_right (by decide) (by omega)), a3⟩
  obtain ⟨k1, k2⟩ := crd_keeps (n := n + 1) hp l up (pmod (cl (2 ^ n) a) p, 2 ^ n) (Nat.pow_lt_pow_right (by decide) (by omega))
  rw [hx] at k1 k2
  dsimp only at k1 k2
  rw [Nat.xor_self] at k2
  have hv : v = pmod (cl u a) p := xor_eq_zero.1 k2
  have hc : clv l (pmod (cl (2 ^ n) a) p) = v := by rw [← clv_is l _ (2 ^ n), hx]
  by_cases h0 : v = 0
  · rw [if_pos h0]
    refine ⟨up, fun i hi => ?_⟩
    by_cases e : i = n
    · rw [e, hc, h0]
    · exact h.span i (by omega)
  · rw [if_neg h0]
    refine ⟨fun e he => ?_, fun i hi => ?_⟩
    · rcases List.mem_append.1 he with he | he
      · exact up e he
      · rw [List.mem_singleton.1 he]; exact ⟨hv, k1, h0⟩
    · rw [clv_snoc]
      by_cases e : i = n
      · rw [e, hc]; exact cst_self h0
      · rw [h.span i (by omega)]; exact cst_none _
theorem Cmb.spans {a p n : Nat} (hp : p ≠ 0) {l : List (Nat × Nat)} (h : Cmb a p n l) : ∀ m, m ≤ n → ∀ u, u < 2 ^ m → clv l (pmod (cl u a) p) = 0 := by
  intro m
  induction m with
  | zero => intro _ u hu; have : u = 0 := by omega
            subst this; rw [zero_cl, pmod_zero_left, clv_zero]
  | succ m ih =>
    intro hm u hu
    by_cases hb : u.testBit m = true
    · have e : u = 2 ^ m ^^^ (u ^^^ 2 ^ m) := by rw [Nat.xor_comm u, ← Nat.xor_assoc, Nat.xor_self, Nat.zero_xor]
      have hlt : u ^^^ 2 ^ m < 2 ^ m := by
        have h1 : bl u = m + 1 := bl_eq (Nat.ge_two_pow_of_testBit hb) hu
        have h2 : bl (2 ^ m) = m + 1 := bl_eq (Nat.le_refl _) (Nat.pow_lt_pow_right (by decide) (by omega))
        have := bl_xor_lt (h1.trans h2.symm) (by intro e; rw [e, bl_zero] at h1; omega)
        exact bl_le.1 (by omega)
      rw [e, cl_xor_left, pmod_xor hp, clv_xor, h.span m (by omega), ih (by omega) _ hlt, Nat.xor_zero]
    · have hlt : u < 2 ^ m := by
        apply Classical.byContradiction
        intro hc
        have h1 : bl u = m + 1 := bl_eq (by omega) hu
        exact hb (top_bit h1)
      exact ih (by omega) u hlt
/-- What elimination answers: a factor, and whether it is one. -/
theorem Cmb.sound {a p n : Nat} (hp : p ≠ 0) {l : List (Nat × Nat)} (h : Cmb a p n l) {t v u : Nat} (hx : crd l (t, 0) = (v, u)) : u < 2 ^ n ∧ (v = 0 → pmod (cl u a) p = t) ∧ (v ≠ 0 → ∀ w, w < 2 ^ n → pmod (cl w a) p ≠ t) := by
  obtain ⟨k1, k2⟩ := crd_keeps (n := n) hp l h.all (t, 0) (Nat.two_pow_pos _)
  rw [hx] at k1 k2
  dsimp only at k1 k2
  rw [zero_cl, pmod_zero_left, Nat.xor_zero] at k2
  refine ⟨k1, fun hv => ?_, fun hv w hw e => ?_⟩
  · rw [hv, Nat.zero_xor] at k2; exact k2
  · have := h.spans hp n (Nat.le_refl _) w hw
    rw [e] at this
    have h2 : clv l t = v := by unfold clv; rw [hx]
    exact hv (h2.symm.trans this)
/-! ### the binary greatest common divisor -/
theorem two_is (a : Nat) : cl 2 a = 2 * a := by rw [show (2 : Nat) = 2 ^ 1 from rfl, pow_cl]; omega
theorem odd_free {d : Nat} (h : d % 2 = 1) {a : Nat} (k : Dv d (2 * a)) : Dv d a := by
  -- 1 = d + 2 * (d / 2), so a = d a + (d / 2) (2 a)
  have e : (1 : Nat) = d ^^^ 2 * (d / 2) := by
    apply Nat.eq_of_testBit_eq
    intro i
    rw [Nat.testBit_xor]
    cases i with
    | zero => simp [h]
    | succ i => simp [Nat.testBit_succ]
  have e2 : a = cl d a ^^^ cl (d / 2) (2 * a) := by
    have : cl (d / 2) (2 * a) = cl (2 * (d / 2)) a := by rw [cl_bit0, two_cl]
    rw [this, ← cl_xor_left, ← e, one_cl]
  rw [e2]
  exact Dv.xor ((Dv.refl d).mul_right a) (k.mul_left _)
theorem dv_odd {d b : Nat} (h : b % 2 = 1) (k : Dv d b) : d % 2 = 1 := by
  obtain ⟨q, hq⟩ := k
  rcases Nat.mod_two_eq_zero_or_one d with h0 | h0
  · exfalso
    have e : d = 2 * (d / 2) := by omega
    rw [hq, e, cl_bit0] at h
    omega
  · exact h0
theorem pgcd_half_left {a b : Nat} (h : b % 2 = 1) : pgcd (2 * a) b = pgcd a b := by
  refine pgcd_unique (odd_free (dv_odd h (pgcd_dv_right _ _)) (pgcd_dv_left _ _)) (pgcd_dv_right _ _) (fun d h1 h2 => dv_pgcd ?_ h2)
  have := h1.mul_left 2
  rw [two_is] at this; exact this
theorem pgcd_half_right {a b : Nat} (h : a % 2 = 1) : pgcd a (2 * b) = pgcd a b := by rw [pgcd_comm, pgcd_half_left h, pgcd_comm]
theorem pgcd_two (a b : Nat) : pgcd (2 * a) (2 * b) = 2 * pgcd a b := by rw [← two_is, ← two_is, pgcd_cl, two_is]
theorem pgcd_add_left (a b : Nat) : pgcd (a ^^^ b) b = pgcd a b := by
  refine pgcd_unique ?_ (pgcd_dv_right _ _) (fun d h1 h2 => dv_pgcd (Dv.xor h1 h2) h2)
  have := Dv.xor (pgcd_dv_left (a ^^^ b) b) (pgcd_dv_right (a ^^^ b) b)
  rwa [xor_cancel_right] at this
theorem pgcd_add_right (a b : Nat) : pgcd a (b ^^^ a) = pgcd a b := by rw [pgcd_comm, pgcd_add_left, pgcd_comm]
theorem pgcd_zero_left (b : Nat) : pgcd 0 b = b := by rw [pgcd_comm, pgcd_zero]
end GP
