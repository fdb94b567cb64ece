/- The coefficients of a number, of a product, of remainders on the way. Plain Lean. -/
import Derived.Test.YthldahaimcdejaaDoorField

set_option linter.unusedVariables false
set_option linter.unusedSimpArgs false
namespace GP
/-- The coefficient i of a. -/
def cf (a i : Nat) : Nat := if a.testBit i then 1 else 0
theorem cf_le (a i : Nat) : cf a i ≤ 1 := by unfold cf; split <;> omega
theorem cf_mod (a i : Nat) : a / 2 ^ i % 2 = cf a i := by
  unfold cf
  rw [Nat.testBit_eq_decide_div_mod_eq]
  rcases Nat.mod_two_eq_zero_or_one (a / 2 ^ i) with h | h <;> simp [h]
theorem cf_xor (a b i : Nat) : cf (a ^^^ b) i = (cf a i + cf b i) % 2 := by
  unfold cf
  rw [Nat.testBit_xor]
  cases a.testBit i <;> cases b.testBit i <;> rfl
/-- The sum over i < t of a's coefficient i times b's coefficient n - i, modulo 2. -/
def cv (a b n : Nat) : Nat → Nat
  | 0 => 0
  | t + 1 => (cv a b n t + cf a t * cf b (n - t)) % 2
theorem cv_le (a b n : Nat) : ∀ t, cv a b n t ≤ 1 := by
  intro t
  cases t with
  | zero => exact Nat.zero_le _
  | succ t => show (_ % 2) ≤ 1; omega
theorem cf_half (a i : Nat) : cf (a / 2) i = cf a (i + 1) := by unfold cf; rw [Nat.testBit_succ]
theorem cf_two (a i : Nat) : cf (2 * a) (i + 1) = cf a i := by unfold cf; rw [Nat.testBit_succ, Nat.mul_div_cancel_left _ (by decide)]
theorem cf_two0 (a : Nat) : cf (2 * a) 0 = 0 := by unfold cf; simp
/-- From the first summand on. -/
theorem cv_first (a b n : Nat) : ∀ t, cv a b (n + 1) (t + 1) = (cf a 0 * cf b (n + 1) + cv (a / 2) b n t) % 2 := by
  intro t
  induction t with
  | zero => show (0 + cf a 0 * cf b (n + 1 - 0)) % 2 = (_ + 0) % 2; rw [Nat.zero_add, Nat.add_zero]; rfl
  | succ t ih =>
    show (cv a b (n + 1) (t + 1) + cf a (t + 1) * cf b (n + 1 - (t + 1))) % 2 = (_ + (cv (a / 2) b n t + cf (a / 2) t * cf b (n - t)) % 2) % 2
    rw [ih, cf_half, show n + 1 - (t + 1) = n - t by omega]
    omega
theorem cl_cf : ∀ (n a b : Nat), cf (cl a b) n = cv a b n (n + 1) := by
  intro n
  induction n with
  | zero =>
    intro a b
    rw [cl_comm, cl_step, cf_xor, cf_two0]
    show _ = (0 + cf a 0 * cf b (0 - 0)) % 2
    rw [Nat.zero_add, Nat.sub_self, Nat.add_zero]
    have h := cf_mod a 0
    rw [Nat.pow_zero, Nat.div_one] at h
    by_cases ha : a % 2 = 1
    · rw [if_pos ha, ← h, ha, Nat.one_mul]
    · have h0 : a % 2 = 0 := by omega
      rw [if_neg ha, ← h, h0, Nat.zero_mul]; rfl
  | succ n ih =>
    intro a b
    rw [cl_comm, cl_step, cf_xor, cf_two, cl_comm, ih, cv_first]
    have h := cf_mod a 0
    rw [Nat.pow_zero, Nat.div_one] at h
    have hb := cf_le b (n + 1)
    by_cases ha : a % 2 = 1
    · rw [if_pos ha, ← h, ha, Nat.one_mul]
    · have h0 : a % 2 = 0 := by omega
      have hz : cf 0 (n + 1) = 0 := by unfold cf; simp
      rw [if_neg ha, ← h, h0, Nat.zero_mul, hz]
/-- A number out of its coefficients, from the highest down. -/
theorem up_step (a i : Nat) : 2 * (a / 2 ^ (i + 1)) + cf a i = a / 2 ^ i := by
  rw [← cf_mod, Nat.pow_succ, ← Nat.div_div_eq_div_mul]
  omega
/-- What the document's division does on the coefficients. -/
def dm (a b d : Nat) : Nat → Nat × Nat
  | 0 => (0, a)
  | t + 1 => if (dm a b d t).2.testBit (63 - t) then ((dm a b d t).1 ^^^ 2 ^ (63 - d - t), (dm a b d t).2 ^^^ b * 2 ^ (63 - d - t)) else dm a b d t
theorem dm_keeps {a b d : Nat} (hd : bl b = d + 1) (ha : a < 2 ^ 64) (hd64 : d ≤ 63) : ∀ t, t ≤ 64 - d → a = cl (dm a b d t).1 b ^^^ (dm a b d t).2 ∧ bl (dm a b d t).2 ≤ 64 - t ∧ ∀ i, i < 64 - d - t → (dm a b d t).1.testBit i = false := by
  have hb : b ≠ 0 := bl_pos.1 (by omega)
  intro t
  induction t with
  | zero =>
    intro _
    refine ⟨?_, ?_, fun i _ => Nat.zero_testBit i⟩
    · show a = cl 0 b ^^^ a; rw [zero_cl, Nat.zero_xor]
    · show bl a ≤ 64; exact bl_le.2 ha
  | succ t ih =>
    intro ht
    obtain ⟨h1, h2, h3⟩ := ih (by omega)
    have st : dm a b d (t + 1) = if (dm a b d t).2.testBit (63 - t) then ((dm a b d t).1 ^^^ 2 ^ (63 - d - t), (dm a b d t).2 ^^^ b * 2 ^ (63 - d - t)) else dm a b d t := rfl
    rw [st]
    by_cases hbit : (dm a b d t).2.testBit (63 - t) = true
    · rw [if_pos hbit]
      have e1 : bl (dm a b d t).2 = 63 - t + 1 := by have := bl_of_bit hbit; omega
      have e2 : bl (b * 2 ^ (63 - d - t)) = 63 - t + 1 := by rw [bl_shift hb, hd]; omega
      refine ⟨?_, ?_, fun i hi => ?_⟩
      · rw [cl_xor_left, pow_cl]
        rw [Nat.xor_assoc, Nat.xor_comm (b * _), Nat.xor_assoc, Nat.xor_self, Nat.xor_zero]
        exact h1
      · have hne : (dm a b d t).2 ≠ 0 := by intro e; rw [e] at hbit; simp at hbit
        have := bl_xor_lt (e1.trans e2.symm) hne
        show bl ((dm a b d t).2 ^^^ b * 2 ^ (63 - d - t)) ≤ _
        omega
      · show ((dm a b d t).1 ^^^ 2 ^ (63 - d - t)).testBit i = false
        rw [Nat.testBit_xor, h3 i (by omega), Nat.testBit_two_pow_of_ne (by omega)]; rfl
    · rw [if_neg hbit]
      refine ⟨h1, ?_, fun i hi => h3 i (by omega)⟩
      rcases Nat.lt_or_ge (bl (dm a b d t).2) (64 - t) with c | c
      · omega
      · exfalso
        exact hbit (top_bit (n := 63 - t) (by omega))
theorem dm_end {a b d : Nat} (hd : bl b = d + 1) (ha : a < 2 ^ 64) (hd64 : d ≤ 63) : dm a b d (64 - d) = (pquo a b, pmod a b) := by
  obtain ⟨h1, h2, -⟩ := dm_keeps hd ha hd64 (64 - d) (Nat.le_refl _)
  obtain ⟨e1, e2⟩ := div_unique (bl_pos.1 (by omega)) h1 (by omega)
  exact Prod.ext e1 e2
end GP
