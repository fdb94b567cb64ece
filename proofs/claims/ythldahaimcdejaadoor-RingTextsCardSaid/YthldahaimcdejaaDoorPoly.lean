/- Polynomials over GF(2) as numbers: product, division, greatest common divisor, irreducible polynomials, Fermat. Plain Lean. -/


set_option linter.unusedVariables false
namespace GP

theorem two_xor (x y : Nat) : 2 * (x ^^^ y) = (2 * x) ^^^ (2 * y) := by
  have := Nat.shiftLeft_xor_distrib (i := 1) (a := x) (b := y)
  simpa [Nat.shiftLeft_eq, Nat.mul_comm] using this

theorem xor_mod2 (x y : Nat) : (x ^^^ y) % 2 = (x % 2) ^^^ (y % 2) := by
  have := Nat.xor_mod_two_pow (a := x) (b := y) (n := 1)
  simpa using this

theorem xor_cancel_left (a b : Nat) : a ^^^ (a ^^^ b) = b := by
  rw [← Nat.xor_assoc, Nat.xor_self, Nat.zero_xor]
theorem xor_cancel_right (a b : Nat) : (b ^^^ a) ^^^ a = b := by
  rw [Nat.xor_assoc, Nat.xor_self, Nat.xor_zero]
/-- The product of two polynomials over GF(2), each as the bits of a number. -/
def cl (a b : Nat) : Nat := if h : b = 0 then 0 else (if b % 2 = 1 then a else 0) ^^^ (2 * cl a (b / 2))
termination_by b
decreasing_by omega

theorem cl_zero (a : Nat) : cl a 0 = 0 := by rw [cl]; simp
theorem cl_step (a b : Nat) : cl a b = (if b % 2 = 1 then a else 0) ^^^ (2 * cl a (b / 2)) := by
  by_cases h : b = 0
  · subst h; simp [cl_zero]
  · rw [cl]; simp [h]
theorem cl_bit0 (a b : Nat) : cl a (2 * b) = 2 * cl a b := by
  rw [cl_step]
  rw [if_neg (by omega), Nat.zero_xor, show 2 * b / 2 = b from by omega]
theorem cl_bit1 (a b : Nat) : cl a (2 * b + 1) = a ^^^ (2 * cl a b) := by
  rw [cl_step]
  rw [if_pos (by omega), show (2 * b + 1) / 2 = b from by omega]
theorem cl_one (a : Nat) : cl a 1 = a := by
  have := cl_bit1 a 0
  simpa [cl_zero] using this

/-- Induction along the bits. -/
theorem bits_ind {P : Nat → Prop} (h0 : P 0) (h1 : ∀ b, b ≠ 0 → P (b / 2) → P b) (b : Nat) : P b := by
  induction b using Nat.strongRecOn with
  | _ b ih =>
    by_cases h : b = 0
    · subst h; exact h0
    · exact h1 b h (ih _ (by omega))

theorem zero_cl (b : Nat) : cl 0 b = 0 := by
  induction b using bits_ind with
  | h0 => exact cl_zero 0
  | h1 b h ih => rw [cl_step, ih]; simp
theorem cl_xor_left (a c b : Nat) : cl (a ^^^ c) b = cl a b ^^^ cl c b := by
  induction b using bits_ind with
  | h0 => simp [cl_zero]
  | h1 b h ih =>
    rw [cl_step, cl_step a b, cl_step c b, ih, two_xor]
    by_cases hb : b % 2 = 1
    · simp only [hb, if_true]; ac_rfl
    · simp only [hb, if_false, Nat.zero_xor]
theorem half_xor (a b : Nat) : (a ^^^ b) / 2 = a / 2 ^^^ b / 2 := Nat.xor_div_two
theorem cl_xor_right (a : Nat) : ∀ b c : Nat, cl a (b ^^^ c) = cl a b ^^^ cl a c := by
  intro b
  induction b using bits_ind with
  | h0 => intro c; simp [cl_zero]
  | h1 b h ih =>
    intro c
    rw [cl_step, cl_step a b, cl_step a c, half_xor, ih, two_xor, xor_mod2]
    rcases Nat.mod_two_eq_zero_or_one b with hb | hb <;> rcases Nat.mod_two_eq_zero_or_one c with hc | hc <;> rw [hb, hc] <;> simp
    · ac_rfl
    · ac_rfl
    · have : ∀ x y : Nat, x ^^^ y = (a ^^^ x) ^^^ (a ^^^ y) := by
        intro x y
        rw [Nat.xor_comm a x, Nat.xor_assoc, xor_cancel_left]
      exact this _ _
theorem two_cl (a b : Nat) : cl (2 * a) b = 2 * cl a b := by
  induction b using bits_ind with
  | h0 => simp [cl_zero]
  | h1 b h ih =>
    rw [cl_step, cl_step a b, ih, two_xor]
    by_cases hb : b % 2 = 1 <;> simp [hb]
theorem one_cl (b : Nat) : cl 1 b = b := by
  induction b using bits_ind with
  | h0 => exact cl_zero 1
  | h1 b h ih =>
    rw [cl_step, ih]
    have e : b = 2 * (b / 2) + b % 2 := by omega
    rcases Nat.mod_two_eq_zero_or_one b with hb | hb
    · rw [if_neg (by omega), Nat.zero_xor]; omega
    · rw [if_pos hb]
      have : 1 ^^^ (2 * (b / 2)) = 2 * (b / 2) + 1 := by
        have h2 := Nat.two_pow_add_eq_or_of_lt (i := 1) (b := 1) (by decide) (b / 2)
        apply Nat.eq_of_testBit_eq
        intro i
        cases i with
        | zero => simp
        | succ i => simp [Nat.testBit_succ]; rw [show (2 * (b / 2) + 1) / 2 = b / 2 from by omega, Nat.xor_div_two]; simp
      omega
theorem cl_comm (a : Nat) : ∀ b : Nat, cl a b = cl b a := by
  induction a using bits_ind with
  | h0 => intro b; rw [zero_cl, cl_zero]
  | h1 a h ih =>
    intro b
    rw [cl_step b a, ← ih b]
    have e : a = (a % 2) ^^^ (2 * (a / 2)) := by
      have := one_cl a
      rw [cl_step, one_cl] at this
      rcases Nat.mod_two_eq_zero_or_one a with ha | ha <;> rw [ha] at this ⊢ <;> simp at this ⊢ <;> exact this.symm
    have e2 : cl a b = cl (a % 2) b ^^^ cl (2 * (a / 2)) b := by
      rw [← cl_xor_left, ← e]
    rw [e2, two_cl]
    rcases Nat.mod_two_eq_zero_or_one a with ha | ha <;> rw [ha] <;> simp [zero_cl, one_cl]
theorem cl_assoc (a b : Nat) : ∀ c : Nat, cl (cl a b) c = cl a (cl b c) := by
  intro c
  induction c using bits_ind with
  | h0 => simp [cl_zero]
  | h1 c h ih =>
    rw [cl_step (cl a b) c, cl_step b c, cl_xor_right, ih, cl_bit0]
    by_cases hc : c % 2 = 1 <;> simp [hc, cl_zero]
instance : Std.Associative cl := ⟨fun a b c => cl_assoc a b c⟩
instance : Std.Commutative cl := ⟨fun a b => cl_comm a b⟩
theorem cl_pow (a s : Nat) : cl a (2 ^ s) = a * 2 ^ s := by
  induction s with
  | zero => simp [cl_one]
  | succ s ih => rw [Nat.pow_succ, Nat.mul_comm (2 ^ s) 2, cl_bit0, ih]; ac_rfl
theorem pow_cl (a s : Nat) : cl (2 ^ s) a = a * 2 ^ s := by rw [cl_comm, cl_pow]

/-- How many bits a number has: the degree and one. -/
def bl (x : Nat) : Nat := if x = 0 then 0 else x.log2 + 1
theorem bl_zero : bl 0 = 0 := rfl
theorem bl_le {x n : Nat} : bl x ≤ n ↔ x < 2 ^ n := by
  unfold bl
  by_cases h : x = 0
  · subst h; simp [Nat.two_pow_pos]
  · rw [if_neg h, ← Nat.log2_lt h]; omega
theorem lt_bl {x n : Nat} : n < bl x ↔ 2 ^ n ≤ x := by
  have := @bl_le x n
  omega
theorem lt_pow_bl (x : Nat) : x < 2 ^ bl x := bl_le.1 (Nat.le_refl _)
theorem bl_eq_zero {x : Nat} : bl x = 0 ↔ x = 0 := by
  have := @bl_le x 0
  rw [Nat.pow_zero] at this
  omega
theorem bl_pos {x : Nat} : 0 < bl x ↔ x ≠ 0 := by
  have := @bl_eq_zero x
  omega
theorem bl_eq {x n : Nat} (h : 2 ^ n ≤ x) (h' : x < 2 ^ (n + 1)) : bl x = n + 1 := by
  have := lt_bl.2 h
  have := bl_le.2 h'
  omega
theorem bl_one : bl 1 = 1 := bl_eq (n := 0) (by decide) (by decide)
theorem bl_ge {x : Nat} (h : x ≠ 0) : 2 ^ (bl x - 1) ≤ x := by
  have := bl_pos.2 h
  exact lt_bl.1 (by omega)
theorem bl_mono {x y : Nat} (h : x ≤ y) : bl x ≤ bl y := bl_le.2 (Nat.lt_of_le_of_lt h (lt_pow_bl y))
theorem bl_xor_le {x y n : Nat} (hx : bl x ≤ n) (hy : bl y ≤ n) : bl (x ^^^ y) ≤ n :=
  bl_le.2 (Nat.xor_lt_two_pow (bl_le.1 hx) (bl_le.1 hy))
theorem top_bit {x n : Nat} (h : bl x = n + 1) : x.testBit n = true := by
  have h1 : 2 ^ n ≤ x := lt_bl.1 (by omega)
  have h2 : x < 2 ^ (n + 1) := bl_le.1 (by omega)
  rw [Nat.testBit_eq_decide_div_mod_eq]
  have : x / 2 ^ n = 1 := by
    apply Nat.div_eq_of_lt_le <;> rw [Nat.pow_succ] at * <;> omega
  simp [this]
theorem bl_of_bit {x n : Nat} (h : x.testBit n = true) : n < bl x := lt_bl.2 (Nat.ge_two_pow_of_testBit h)
theorem bit_of_bl {x n : Nat} (h : bl x ≤ n) : x.testBit n = false := Nat.testBit_lt_two_pow (bl_le.1 h)
theorem bl_xor_of_lt {x y : Nat} (h : bl y < bl x) : bl (x ^^^ y) = bl x := by
  obtain ⟨n, hn⟩ : ∃ n, bl x = n + 1 := ⟨bl x - 1, by omega⟩
  have h1 : (x ^^^ y).testBit n = true := by
    rw [Nat.testBit_xor, top_bit hn, bit_of_bl (by omega)]; rfl
  have := bl_of_bit h1
  have := bl_xor_le (x := x) (y := y) (n := bl x) (Nat.le_refl _) (by omega)
  omega
theorem bl_xor_lt {x y : Nat} (h : bl x = bl y) (hx : x ≠ 0) : bl (x ^^^ y) < bl x := by
  obtain ⟨n, hn⟩ : ∃ n, bl x = n + 1 := ⟨bl x - 1, by have := bl_pos.2 hx; omega⟩
  have h1 : (x ^^^ y).testBit n = false := by
    rw [Nat.testBit_xor, top_bit hn, top_bit (h ▸ hn)]; rfl
  have h2 := bl_xor_le (x := x) (y := y) (n := bl x) (Nat.le_refl _) (by omega)
  by_cases h3 : bl (x ^^^ y) = n + 1
  · rw [top_bit h3] at h1; cases h1
  · omega
theorem bl_shift {x : Nat} (h : x ≠ 0) (s : Nat) : bl (x * 2 ^ s) = bl x + s := by
  have h0 := bl_pos.2 h
  have h1 := bl_ge h
  have h2 := lt_pow_bl x
  rw [show bl x + s = (bl x - 1 + s) + 1 from by omega]
  apply bl_eq
  · rw [Nat.pow_add]; exact Nat.mul_le_mul_right _ h1
  · rw [show bl x - 1 + s + 1 = bl x + s from by omega, Nat.pow_add]
    exact Nat.mul_lt_mul_of_pos_right h2 (Nat.two_pow_pos s)
theorem bl_double {x : Nat} (h : x ≠ 0) : bl (2 * x) = bl x + 1 := by
  have := bl_shift h 1
  rwa [Nat.pow_one, Nat.mul_comm] at this
theorem bl_half (x : Nat) : bl (x / 2) = bl x - 1 := by
  by_cases h : x / 2 = 0
  · rw [h]
    have : x < 2 ^ 1 := by omega
    have := bl_le.2 this
    rw [bl_zero]; omega
  · have e := bl_double h
    have h1 : bl (2 * (x / 2)) ≤ bl x := bl_mono (by omega)
    have h2 : bl x ≤ bl (2 * (x / 2)) := by
      rw [e]
      apply bl_le.2
      have := lt_pow_bl (x / 2)
      rw [Nat.pow_succ]; omega
    omega
theorem bl_cl {a b : Nat} (ha : a ≠ 0) : b ≠ 0 → bl (cl a b) + 1 = bl a + bl b := by
  induction b using bits_ind with
  | h0 => intro h; exact absurd rfl h
  | h1 b hb ih =>
    intro _
    rw [cl_step]
    by_cases h : b / 2 = 0
    · have hb1 : b = 1 := by omega
      subst hb1
      rw [show (1 : Nat) / 2 = 0 from rfl, cl_zero, bl_one]; simp
    · have e := ih h
      have hp := bl_pos.2 ha
      have hc : cl a (b / 2) ≠ 0 := bl_pos.1 (by have := bl_pos.2 h; omega)
      have e2 := bl_double hc
      have e3 := bl_half b
      have hb2 := bl_pos.2 hb
      have hb3 := bl_pos.2 h
      by_cases ho : b % 2 = 1
      · rw [if_pos ho, Nat.xor_comm, bl_xor_of_lt (by omega)]; omega
      · rw [if_neg ho, Nat.zero_xor]; omega
/-- Quotient and remainder. -/
def pdm (a b : Nat) : Nat × Nat :=
  if h : b = 0 ∨ bl a < bl b then (0, a)
  else ((pdm (a ^^^ b * 2 ^ (bl a - bl b)) b).1 ^^^ 2 ^ (bl a - bl b), (pdm (a ^^^ b * 2 ^ (bl a - bl b)) b).2)
termination_by bl a
decreasing_by
  all_goals
    have hb : b ≠ 0 := fun e => h (.inl e)
    have ha : a ≠ 0 := bl_pos.1 (by have := bl_pos.2 hb; have hl : ¬ bl a < bl b := fun e => h (.inr e); omega)
    exact bl_xor_lt (by have hl : ¬ bl a < bl b := fun e => h (.inr e); have e := bl_shift hb (bl a - bl b); omega) ha
def pquo (a b : Nat) : Nat := (pdm a b).1
def pmod (a b : Nat) : Nat := (pdm a b).2
theorem pdm_small {a b : Nat} (h : bl a < bl b) : pdm a b = (0, a) := by rw [pdm]; simp [h]
theorem pdm_step {a b : Nat} (hb : b ≠ 0) (h : bl b ≤ bl a) :
    pdm a b = ((pdm (a ^^^ b * 2 ^ (bl a - bl b)) b).1 ^^^ 2 ^ (bl a - bl b), (pdm (a ^^^ b * 2 ^ (bl a - bl b)) b).2) := by
  rw [pdm, dif_neg (by omega)]
theorem step_lt {a b : Nat} (hb : b ≠ 0) (h : bl b ≤ bl a) : bl (a ^^^ b * 2 ^ (bl a - bl b)) < bl a := by
  have e := bl_shift hb (bl a - bl b)
  have ha : a ≠ 0 := bl_pos.1 (by have := bl_pos.2 hb; omega)
  exact bl_xor_lt (by omega) ha
theorem pdm_spec {b : Nat} (hb : b ≠ 0) : ∀ (n a : Nat), bl a ≤ n → a = cl (pquo a b) b ^^^ pmod a b ∧ bl (pmod a b) < bl b := by
  intro n
  induction n with
  | zero =>
    intro a ha
    have : bl a < bl b := by have := bl_pos.2 hb; omega
    unfold pquo pmod
    rw [pdm_small this, zero_cl, Nat.zero_xor]
    exact ⟨rfl, this⟩
  | succ n ih =>
    intro a ha
    by_cases h : bl a < bl b
    · unfold pquo pmod
      rw [pdm_small h, zero_cl, Nat.zero_xor]
      exact ⟨rfl, h⟩
    · have hl := step_lt hb (Nat.le_of_not_lt h)
      obtain ⟨e1, e2⟩ := ih (a ^^^ b * 2 ^ (bl a - bl b)) (by omega)
      have hs := pdm_step hb (Nat.le_of_not_lt h)
      have hq : pquo a b = pquo (a ^^^ b * 2 ^ (bl a - bl b)) b ^^^ 2 ^ (bl a - bl b) := by unfold pquo; rw [hs]
      have hr : pmod a b = pmod (a ^^^ b * 2 ^ (bl a - bl b)) b := by unfold pmod; rw [hs]
      rw [hq, hr]
      refine ⟨?_, e2⟩
      rw [cl_xor_left, pow_cl]
      rw [Nat.xor_assoc, Nat.xor_comm (b * 2 ^ (bl a - bl b)), ← Nat.xor_assoc, ← e1, xor_cancel_right]
theorem pmod_lt {b : Nat} (hb : b ≠ 0) (a : Nat) : bl (pmod a b) < bl b := (pdm_spec hb _ a (Nat.le_refl _)).2
/-- d divides a. -/
def Dv (d a : Nat) : Prop := ∃ q, a = cl q d
theorem Dv.refl (a : Nat) : Dv a a := ⟨1, (one_cl a).symm⟩
theorem Dv.zero (d : Nat) : Dv d 0 := ⟨0, (zero_cl d).symm⟩
theorem Dv.one (a : Nat) : Dv 1 a := ⟨a, (cl_one a).symm⟩
theorem Dv.xor {d a b : Nat} (h : Dv d a) (k : Dv d b) : Dv d (a ^^^ b) := by
  obtain ⟨q, rfl⟩ := h
  obtain ⟨r, rfl⟩ := k
  exact ⟨q ^^^ r, (cl_xor_left q r d).symm⟩
theorem Dv.mul_left {d a : Nat} (h : Dv d a) (c : Nat) : Dv d (cl c a) := by
  obtain ⟨q, rfl⟩ := h
  exact ⟨cl c q, (cl_assoc c q d).symm⟩
theorem Dv.trans {a b c : Nat} (h : Dv a b) (k : Dv b c) : Dv a c := by
  obtain ⟨q, rfl⟩ := k
  exact h.mul_left q
theorem Dv.bl_le {d a : Nat} (h : Dv d a) (ha : a ≠ 0) : bl d ≤ bl a := by
  obtain ⟨q, rfl⟩ := h
  have hq : q ≠ 0 := by rintro rfl; exact ha (zero_cl d)
  have hd : d ≠ 0 := by rintro rfl; exact ha (cl_zero q)
  have := bl_cl hq hd
  have := bl_pos.2 hq
  omega
/-- Euclid's greatest common divisor. -/
def pgcd (a b : Nat) : Nat := if h : b = 0 then a else pgcd b (pmod a b)
termination_by bl b
decreasing_by exact pmod_lt h a
/-- A polynomial of a degree from 1 on that is no product of two such. -/
def Irr (p : Nat) : Prop := 2 ≤ p ∧ ∀ d e, p = cl d e → d = 1 ∨ e = 1
/-- Powers. -/
def pp (a : Nat) : Nat → Nat
  | 0 => 1
  | n + 1 => cl (pp a n) a
/-- A list's product. -/
def prodl : List Nat → Nat
  | [] => 1
  | x :: l => cl x (prodl l)
end GP
