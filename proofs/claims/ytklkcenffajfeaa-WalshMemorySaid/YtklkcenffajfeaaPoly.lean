/- Polynomials over GF(2) as numbers: product, division, greatest common divisor, irreducible polynomials, Fermat. Plain Lean. -/
set_option linter.unusedVariables false
namespace GP

theorem two_xor (x y : Nat) : 2 * (x ^^^ y) = (2 * x) ^^^ (2 * y) := by
  have := Nat.shiftLeft_xor_distrib (i := 1) (a := x) (b := y)
  simpa [Nat.shiftLeft_eq, Nat.mul_comm] using this

theorem pow_xor (x y s : Nat) : (x ^^^ y) * 2 ^ s = (x * 2 ^ s) ^^^ (y * 2 ^ s) := by
  have := Nat.shiftLeft_xor_distrib (i := s) (a := x) (b := y)
  simpa [Nat.shiftLeft_eq] using this

theorem xor_mod2 (x y : Nat) : (x ^^^ y) % 2 = (x % 2) ^^^ (y % 2) := by
  have := Nat.xor_mod_two_pow (a := x) (b := y) (n := 1)
  simpa using this

theorem xor_left_comm (a b c : Nat) : a ^^^ (b ^^^ c) = b ^^^ (a ^^^ c) := by
  rw [← Nat.xor_assoc, Nat.xor_comm a b, Nat.xor_assoc]
theorem xor_cancel_left (a b : Nat) : a ^^^ (a ^^^ b) = b := by
  rw [← Nat.xor_assoc, Nat.xor_self, Nat.zero_xor]
theorem xor_cancel_right (a b : Nat) : (b ^^^ a) ^^^ a = b := by
  rw [Nat.xor_assoc, Nat.xor_self, Nat.xor_zero]
theorem xor_eq_zero {a b : Nat} : a ^^^ b = 0 ↔ a = b := by
  constructor
  · intro h
    have := xor_cancel_left a b
    rw [h, Nat.xor_zero] at this
    exact this
  · rintro rfl; exact Nat.xor_self a
theorem xor_right_inj {a b c : Nat} : a ^^^ b = a ^^^ c ↔ b = c := by
  constructor
  · intro h
    have := congrArg (a ^^^ ·) h
    simpa only [xor_cancel_left] using this
  · rintro rfl; rfl
theorem xor_eq_iff {a b c : Nat} : a ^^^ b = c ↔ a = c ^^^ b := by
  constructor
  · rintro rfl; rw [xor_cancel_right]
  · rintro rfl; rw [xor_cancel_right]

/-- The product of two polynomials over GF(2), each as the bits of a number. -/
def cl (a b : Nat) : Nat := if h : b = 0 then 0 else (if b % 2 = 1 then a else 0) ^^^ (2 * cl a (b / 2))
termination_by b
decreasing_by omega

theorem cl_zero (a : Nat) : cl a 0 = 0 := by rw [cl]; simp
theorem cl_step (a b : Nat) : cl a b = (if b % 2 = 1 then a else 0) ^^^ (2 * cl a (b / 2)) := by
  by_cases h : b = 0
  · subst h; simp [cl_zero]
  · rw [cl]; simp [h]
theorem cl_bit0 (a b : Nat) : cl a (2 * b) = 2 * cl a b := by
  rw [cl_step]
  rw [if_neg (by omega), Nat.zero_xor, show 2 * b / 2 = b from by omega]
theorem cl_bit1 (a b : Nat) : cl a (2 * b + 1) = a ^^^ (2 * cl a b) := by
  rw [cl_step]
  rw [if_pos (by omega), show (2 * b + 1) / 2 = b from by omega]
theorem cl_one (a : Nat) : cl a 1 = a := by
  have := cl_bit1 a 0
  simpa [cl_zero] using this

/-- Induction along the bits. -/
theorem bits_ind {P : Nat → Prop} (h0 : P 0) (h1 : ∀ b, b ≠ 0 → P (b / 2) → P b) (b : Nat) : P b := by
  induction b using Nat.strongRecOn with
  | _ b ih =>
    by_cases h : b = 0
    · subst h; exact h0
    · exact h1 b h (ih _ (by omega))

theorem zero_cl (b : Nat) : cl 0 b = 0 := by
  induction b using bits_ind with
  | h0 => exact cl_zero 0
  | h1 b h ih => rw [cl_step, ih]; simp
theorem cl_xor_left (a c b : Nat) : cl (a ^^^ c) b = cl a b ^^^ cl c b := by
  induction b using bits_ind with
  | h0 => simp [cl_zero]
  | h1 b h ih =>
    rw [cl_step, cl_step a b, cl_step c b, ih, two_xor]
    by_cases hb : b % 2 = 1
    · simp only [hb, if_true]; ac_rfl
    · simp only [hb, if_false, Nat.zero_xor]
theorem half_xor (a b : Nat) : (a ^^^ b) / 2 = a / 2 ^^^ b / 2 := Nat.xor_div_two
theorem cl_xor_right (a : Nat) : ∀ b c : Nat, cl a (b ^^^ c) = cl a b ^^^ cl a c := by
  intro b
  induction b using bits_ind with
  | h0 => intro c; simp [cl_zero]
  | h1 b h ih =>
    intro c
    rw [cl_step, cl_step a b, cl_step a c, half_xor, ih, two_xor, xor_mod2]
    rcases Nat.mod_two_eq_zero_or_one b with hb | hb <;> rcases Nat.mod_two_eq_zero_or_one c with hc | hc <;> rw [hb, hc] <;> simp
    · ac_rfl
    · ac_rfl
    · have : ∀ x y : Nat, x ^^^ y = (a ^^^ x) ^^^ (a ^^^ y) := by
        intro x y
        rw [Nat.xor_comm a x, Nat.xor_assoc, xor_cancel_left]
      exact this _ _
theorem two_cl (a b : Nat) : cl (2 * a) b = 2 * cl a b := by
  induction b using bits_ind with
  | h0 => simp [cl_zero]
  | h1 b h ih =>
    rw [cl_step, cl_step a b, ih, two_xor]
    by_cases hb : b % 2 = 1 <;> simp [hb]
theorem one_cl (b : Nat) : cl 1 b = b := by
  induction b using bits_ind with
  | h0 => exact cl_zero 1
  | h1 b h ih =>
    rw [cl_step, ih]
    have e : b = 2 * (b / 2) + b % 2 := by omega
    rcases Nat.mod_two_eq_zero_or_one b with hb | hb
    · rw [if_neg (by omega), Nat.zero_xor]; omega
    · rw [if_pos hb]
      have : 1 ^^^ (2 * (b / 2)) = 2 * (b / 2) + 1 := by
        have h2 := Nat.two_pow_add_eq_or_of_lt (i := 1) (b := 1) (by decide) (b / 2)
        apply Nat.eq_of_testBit_eq
        intro i
        cases i with
        | zero => simp
        | succ i => simp [Nat.testBit_succ]; rw [show (2 * (b / 2) + 1) / 2 = b / 2 from by omega, Nat.xor_div_two]; simp
      omega
theorem cl_comm (a : Nat) : ∀ b : Nat, cl a b = cl b a := by
  induction a using bits_ind with
  | h0 => intro b; rw [zero_cl, cl_zero]
  | h1 a h ih =>
    intro b
    rw [cl_step b a, ← ih b]
    have e : a = (a % 2) ^^^ (2 * (a / 2)) := by
      have := one_cl a
      rw [cl_step, one_cl] at this
      rcases Nat.mod_two_eq_zero_or_one a with ha | ha <;> rw [ha] at this ⊢ <;> simp at this ⊢ <;> exact this.symm
    have e2 : cl a b = cl (a % 2) b ^^^ cl (2 * (a / 2)) b := by
      rw [← cl_xor_left, ← e]
    rw [e2, two_cl]
    rcases Nat.mod_two_eq_zero_or_one a with ha | ha <;> rw [ha] <;> simp [zero_cl, one_cl]
theorem cl_assoc (a b : Nat) : ∀ c : Nat, cl (cl a b) c = cl a (cl b c) := by
  intro c
  induction c using bits_ind with
  | h0 => simp [cl_zero]
  | h1 c h ih =>
    rw [cl_step (cl a b) c, cl_step b c, cl_xor_right, ih, cl_bit0]
    by_cases hc : c % 2 = 1 <;> simp [hc, cl_zero]
theorem cl_left_comm (a b c : Nat) : cl a (cl b c) = cl b (cl a c) := by
  rw [← cl_assoc, cl_comm a b, cl_assoc]
instance : Std.Associative cl := ⟨fun a b c => cl_assoc a b c⟩
instance : Std.Commutative cl := ⟨fun a b => cl_comm a b⟩
theorem cl_pow (a s : Nat) : cl a (2 ^ s) = a * 2 ^ s := by
  induction s with
  | zero => simp [cl_one]
  | succ s ih => rw [Nat.pow_succ, Nat.mul_comm (2 ^ s) 2, cl_bit0, ih]; ac_rfl
theorem pow_cl (a s : Nat) : cl (2 ^ s) a = a * 2 ^ s := by rw [cl_comm, cl_pow]

/-- How many bits a number has: the degree and one. -/
def bl (x : Nat) : Nat := if x = 0 then 0 else x.log2 + 1
theorem bl_zero : bl 0 = 0 := rfl
theorem bl_le {x n : Nat} : bl x ≤ n ↔ x < 2 ^ n := by
  unfold bl
  by_cases h : x = 0
  · subst h; simp [Nat.two_pow_pos]
  · rw [if_neg h, ← Nat.log2_lt h]; omega
theorem lt_bl {x n : Nat} : n < bl x ↔ 2 ^ n ≤ x := by
  have := @bl_le x n
  omega
theorem lt_pow_bl (x : Nat) : x < 2 ^ bl x := bl_le.1 (Nat.le_refl _)
theorem bl_eq_zero {x : Nat} : bl x = 0 ↔ x = 0 := by
  have := @bl_le x 0
  rw [Nat.pow_zero] at this
  omega
theorem bl_pos {x : Nat} : 0 < bl x ↔ x ≠ 0 := by
  have := @bl_eq_zero x
  omega
theorem bl_eq {x n : Nat} (h : 2 ^ n ≤ x) (h' : x < 2 ^ (n + 1)) : bl x = n + 1 := by
  have := lt_bl.2 h
  have := bl_le.2 h'
  omega
theorem bl_one : bl 1 = 1 := bl_eq (n := 0) (by decide) (by decide)
theorem bl_two : bl 2 = 2 := bl_eq (n := 1) (by decide) (by decide)
theorem bl_ge {x : Nat} (h : x ≠ 0) : 2 ^ (bl x - 1) ≤ x := by
  have := bl_pos.2 h
  exact lt_bl.1 (by omega)
theorem bl_mono {x y : Nat} (h : x ≤ y) : bl x ≤ bl y := bl_le.2 (Nat.lt_of_le_of_lt h (lt_pow_bl y))
theorem bl_xor_le {x y n : Nat} (hx : bl x ≤ n) (hy : bl y ≤ n) : bl (x ^^^ y) ≤ n :=
  bl_le.2 (Nat.xor_lt_two_pow (bl_le.1 hx) (bl_le.1 hy))
theorem top_bit {x n : Nat} (h : bl x = n + 1) : x.testBit n = true := by
  have h1 : 2 ^ n ≤ x := lt_bl.1 (by omega)
  have h2 : x < 2 ^ (n + 1) := bl_le.1 (by omega)
  rw [Nat.testBit_eq_decide_div_mod_eq]
  have : x / 2 ^ n = 1 := by
    apply Nat.div_eq_of_lt_le <;> rw [Nat.pow_succ] at * <;> omega
  simp [this]
theorem bl_of_bit {x n : Nat} (h : x.testBit n = true) : n < bl x := lt_bl.2 (Nat.ge_two_pow_of_testBit h)
theorem bit_of_bl {x n : Nat} (h : bl x ≤ n) : x.testBit n = false := Nat.testBit_lt_two_pow (bl_le.1 h)
theorem bl_xor_of_lt {x y : Nat} (h : bl y < bl x) : bl (x ^^^ y) = bl x := by
  obtain ⟨n, hn⟩ : ∃ n, bl x = n + 1 := ⟨bl x - 1, by omega⟩
  have h1 : (x ^^^ y).testBit n = true := by
    rw [Nat.testBit_xor, top_bit hn, bit_of_bl (by omega)]; rfl
  have := bl_of_bit h1
  have := bl_xor_le (x := x) (y := y) (n := bl x) (Nat.le_refl _) (by omega)
  omega
theorem bl_xor_lt {x y : Nat} (h : bl x = bl y) (hx : x ≠ 0) : bl (x ^^^ y) < bl x := by
  obtain ⟨n, hn⟩ : ∃ n, bl x = n + 1 := ⟨bl x - 1, by have := bl_pos.2 hx; omega⟩
  have h1 : (x ^^^ y).testBit n = false := by
    rw [Nat.testBit_xor, top_bit hn, top_bit (h ▸ hn)]; rfl
  have h2 := bl_xor_le (x := x) (y := y) (n := bl x) (Nat.le_refl _) (by omega)
  by_cases h3 : bl (x ^^^ y) = n + 1
  · rw [top_bit h3] at h1; cases h1
  · omega
theorem bl_shift {x : Nat} (h : x ≠ 0) (s : Nat) : bl (x * 2 ^ s) = bl x + s := by
  have h0 := bl_pos.2 h
  have h1 := bl_ge h
  have h2 := lt_pow_bl x
  rw [show bl x + s = (bl x - 1 + s) + 1 from by omega]
  apply bl_eq
  · rw [Nat.pow_add]; exact Nat.mul_le_mul_right _ h1
  · rw [show bl x - 1 + s + 1 = bl x + s from by omega, Nat.pow_add]
    exact Nat.mul_lt_mul_of_pos_right h2 (Nat.two_pow_pos s)
theorem bl_double {x : Nat} (h : x ≠ 0) : bl (2 * x) = bl x + 1 := by
  have := bl_shift h 1
  rwa [Nat.pow_one, Nat.mul_comm] at this
theorem bl_half (x : Nat) : bl (x / 2) = bl x - 1 := by
  by_cases h : x / 2 = 0
  · rw [h]
    have : x < 2 ^ 1 := by omega
    have := bl_le.2 this
    rw [bl_zero]; omega
  · have e := bl_double h
    have h1 : bl (2 * (x / 2)) ≤ bl x := bl_mono (by omega)
    have h2 : bl x ≤ bl (2 * (x / 2)) := by
      rw [e]
      apply bl_le.2
      have := lt_pow_bl (x / 2)
      rw [Nat.pow_succ]; omega
    omega
theorem bl_cl {a b : Nat} (ha : a ≠ 0) : b ≠ 0 → bl (cl a b) + 1 = bl a + bl b := by
  induction b using bits_ind with
  | h0 => intro h; exact absurd rfl h
  | h1 b hb ih =>
    intro _
    rw [cl_step]
    by_cases h : b / 2 = 0
    · have hb1 : b = 1 := by omega
      subst hb1
      rw [show (1 : Nat) / 2 = 0 from rfl, cl_zero, bl_one]; simp
    · have e := ih h
      have hp := bl_pos.2 ha
      have hc : cl a (b / 2) ≠ 0 := bl_pos.1 (by have := bl_pos.2 h; omega)
      have e2 := bl_double hc
      have e3 := bl_half b
      have hb2 := bl_pos.2 hb
      have hb3 := bl_pos.2 h
      by_cases ho : b % 2 = 1
      · rw [if_pos ho, Nat.xor_comm, bl_xor_of_lt (by omega)]; omega
      · rw [if_neg ho, Nat.zero_xor]; omega
theorem cl_ne {a b : Nat} (ha : a ≠ 0) (hb : b ≠ 0) : cl a b ≠ 0 := by
  apply bl_pos.1
  have := bl_cl ha hb
  have := bl_pos.2 ha
  have := bl_pos.2 hb
  omega
theorem cl_eq_zero {a b : Nat} : cl a b = 0 ↔ a = 0 ∨ b = 0 := by
  constructor
  · intro h
    by_cases ha : a = 0
    · exact .inl ha
    · by_cases hb : b = 0
      · exact .inr hb
      · exact absurd h (cl_ne ha hb)
  · rintro (rfl | rfl)
    · exact zero_cl b
    · exact cl_zero a
theorem cl_cancel {a b c : Nat} (ha : a ≠ 0) (h : cl a b = cl a c) : b = c := by
  have : cl a (b ^^^ c) = 0 := by rw [cl_xor_right, h, Nat.xor_self]
  rcases cl_eq_zero.1 this with h | h
  · exact absurd h ha
  · exact xor_eq_zero.1 h
theorem cl_eq_one {a b : Nat} (h : cl a b = 1) : a = 1 ∧ b = 1 := by
  have ha : a ≠ 0 := by rintro rfl; rw [zero_cl] at h; cases h
  have hb : b ≠ 0 := by rintro rfl; rw [cl_zero] at h; cases h
  have := bl_cl ha hb
  rw [h, bl_one] at this
  have := bl_pos.2 ha
  have := bl_pos.2 hb
  have ha1 : a < 2 ^ 1 := bl_le.1 (by omega)
  have hb1 : b < 2 ^ 1 := bl_le.1 (by omega)
  omega

/-- Quotient and remainder. -/
def pdm (a b : Nat) : Nat × Nat :=
  if h : b = 0 ∨ bl a < bl b then (0, a)
  else ((pdm (a ^^^ b * 2 ^ (bl a - bl b)) b).1 ^^^ 2 ^ (bl a - bl b), (pdm (a ^^^ b * 2 ^ (bl a - bl b)) b).2)
termination_by bl a
decreasing_by
  all_goals
    have hb : b ≠ 0 := fun e => h (.inl e)
    have ha : a ≠ 0 := bl_pos.1 (by have := bl_pos.2 hb; have hl : ¬ bl a < bl b := fun e => h (.inr e); omega)
    exact bl_xor_lt (by have hl : ¬ bl a < bl b := fun e => h (.inr e); have e := bl_shift hb (bl a - bl b); omega) ha
def pquo (a b : Nat) : Nat := (pdm a b).1
def pmod (a b : Nat) : Nat := (pdm a b).2
theorem pdm_small {a b : Nat} (h : bl a < bl b) : pdm a b = (0, a) := by rw [pdm]; simp [h]
theorem pdm_zero (a : Nat) : pdm a 0 = (0, a) := by rw [pdm]; simp
theorem pdm_step {a b : Nat} (hb : b ≠ 0) (h : bl b ≤ bl a) :
    pdm a b = ((pdm (a ^^^ b * 2 ^ (bl a - bl b)) b).1 ^^^ 2 ^ (bl a - bl b), (pdm (a ^^^ b * 2 ^ (bl a - bl b)) b).2) := by
  rw [pdm, dif_neg (by omega)]
theorem step_lt {a b : Nat} (hb : b ≠ 0) (h : bl b ≤ bl a) : bl (a ^^^ b * 2 ^ (bl a - bl b)) < bl a := by
  have e := bl_shift hb (bl a - bl b)
  have ha : a ≠ 0 := bl_pos.1 (by have := bl_pos.2 hb; omega)
  exact bl_xor_lt (by omega) ha
theorem pdm_spec {b : Nat} (hb : b ≠ 0) : ∀ (n a : Nat), bl a ≤ n → a = cl (pquo a b) b ^^^ pmod a b ∧ bl (pmod a b) < bl b := by
  intro n
  induction n with
  | zero =>
    intro a ha
    have : bl a < bl b := by have := bl_pos.2 hb; omega
    unfold pquo pmod
    rw [pdm_small this, zero_cl, Nat.zero_xor]
    exact ⟨rfl, this⟩
  | succ n ih =>
    intro a ha
    by_cases h : bl a < bl b
    · unfold pquo pmod
      rw [pdm_small h, zero_cl, Nat.zero_xor]
      exact ⟨rfl, h⟩
    · have hl := step_lt hb (Nat.le_of_not_lt h)
      obtain ⟨e1, e2⟩ := ih (a ^^^ b * 2 ^ (bl a - bl b)) (by omega)
      have hs := pdm_step hb (Nat.le_of_not_lt h)
      have hq : pquo a b = pquo (a ^^^ b * 2 ^ (bl a - bl b)) b ^^^ 2 ^ (bl a - bl b) := by unfold pquo; rw [hs]
      have hr : pmod a b = pmod (a ^^^ b * 2 ^ (bl a - bl b)) b := by unfold pmod; rw [hs]
      rw [hq, hr]
      refine ⟨?_, e2⟩
      rw [cl_xor_left, pow_cl]
      rw [Nat.xor_assoc, Nat.xor_comm (b * 2 ^ (bl a - bl b)), ← Nat.xor_assoc, ← e1, xor_cancel_right]
theorem div_eq {b : Nat} (hb : b ≠ 0) (a : Nat) : a = cl (pquo a b) b ^^^ pmod a b := (pdm_spec hb _ a (Nat.le_refl _)).1
theorem pmod_lt {b : Nat} (hb : b ≠ 0) (a : Nat) : bl (pmod a b) < bl b := (pdm_spec hb _ a (Nat.le_refl _)).2
theorem div_unique {a b q r : Nat} (hb : b ≠ 0) (h : a = cl q b ^^^ r) (hr : bl r < bl b) : q = pquo a b ∧ r = pmod a b := by
  have e := div_eq hb a
  have l := pmod_lt hb a
  have e2 : cl (q ^^^ pquo a b) b = r ^^^ pmod a b := by
    have e3 : cl q b ^^^ r = cl (pquo a b) b ^^^ pmod a b := h ▸ e
    have e4 : (cl q b ^^^ r) ^^^ (cl (pquo a b) b ^^^ r) = (cl (pquo a b) b ^^^ pmod a b) ^^^ (cl (pquo a b) b ^^^ r) := by rw [e3]
    rw [cl_xor_left]
    calc cl q b ^^^ cl (pquo a b) b = (cl q b ^^^ r) ^^^ (cl (pquo a b) b ^^^ r) := by
          rw [Nat.xor_assoc, xor_left_comm r, Nat.xor_self, Nat.xor_zero]
      _ = (cl (pquo a b) b ^^^ pmod a b) ^^^ (cl (pquo a b) b ^^^ r) := e4
      _ = r ^^^ pmod a b := by
          rw [Nat.xor_assoc, xor_left_comm (pmod a b), xor_cancel_left, Nat.xor_comm]
  have hq : q ^^^ pquo a b = 0 := by
    by_cases hz : q ^^^ pquo a b = 0
    · exact hz
    · have h1 := bl_cl hz hb
      have h2 := bl_pos.2 hz
      rw [e2] at h1
      have h3 := bl_xor_le (x := r) (y := pmod a b) (n := bl b - 1) (by omega) (by omega)
      omega
  rw [hq, zero_cl] at e2
  exact ⟨xor_eq_zero.1 hq, xor_eq_zero.1 e2.symm⟩

/-- d divides a. -/
def Dv (d a : Nat) : Prop := ∃ q, a = cl q d
theorem Dv.refl (a : Nat) : Dv a a := ⟨1, (one_cl a).symm⟩
theorem Dv.zero (d : Nat) : Dv d 0 := ⟨0, (zero_cl d).symm⟩
theorem Dv.one (a : Nat) : Dv 1 a := ⟨a, (cl_one a).symm⟩
theorem Dv.xor {d a b : Nat} (h : Dv d a) (k : Dv d b) : Dv d (a ^^^ b) := by
  obtain ⟨q, rfl⟩ := h
  obtain ⟨r, rfl⟩ := k
  exact ⟨q ^^^ r, (cl_xor_left q r d).symm⟩
theorem Dv.mul_left {d a : Nat} (h : Dv d a) (c : Nat) : Dv d (cl c a) := by
  obtain ⟨q, rfl⟩ := h
  exact ⟨cl c q, (cl_assoc c q d).symm⟩
theorem Dv.mul_right {d a : Nat} (h : Dv d a) (c : Nat) : Dv d (cl a c) := by
  rw [cl_comm]; exact h.mul_left c
theorem Dv.trans {a b c : Nat} (h : Dv a b) (k : Dv b c) : Dv a c := by
  obtain ⟨q, rfl⟩ := k
  exact h.mul_left q
theorem Dv.bl_le {d a : Nat} (h : Dv d a) (ha : a ≠ 0) : bl d ≤ bl a := by
  obtain ⟨q, rfl⟩ := h
  have hq : q ≠ 0 := by rintro rfl; exact ha (zero_cl d)
  have hd : d ≠ 0 := by rintro rfl; exact ha (cl_zero q)
  have := bl_cl hq hd
  have := bl_pos.2 hq
  omega
theorem Dv.antisymm {a b : Nat} (h : Dv a b) (k : Dv b a) : a = b := by
  obtain ⟨q, hq⟩ := h
  obtain ⟨r, hr⟩ := k
  by_cases ha : a = 0
  · subst ha; rw [cl_zero] at hq; exact hq.symm
  · rw [hq, ← cl_assoc] at hr
    have : cl a (cl r q) = cl a 1 := by rw [cl_comm, ← hr, cl_one]
    have := cl_eq_one (cl_cancel ha this)
    rw [hq, this.2, one_cl]
theorem Dv.of_xor {d a b : Nat} (h : Dv d (a ^^^ b)) (k : Dv d b) : Dv d a := by
  have := h.xor k
  rwa [xor_cancel_right] at this
theorem Dv.cancel {c a b : Nat} (hc : c ≠ 0) (h : Dv (cl c a) (cl c b)) : Dv a b := by
  obtain ⟨q, hq⟩ := h
  exact ⟨q, cl_cancel hc (by rw [hq, cl_left_comm])⟩
theorem zero_dv {a : Nat} (h : Dv 0 a) : a = 0 := by
  obtain ⟨q, rfl⟩ := h; exact cl_zero q
theorem pmod_eq_zero {a b : Nat} (hb : b ≠ 0) : pmod a b = 0 ↔ Dv b a := by
  constructor
  · intro h
    have e := div_eq hb a
    rw [h, Nat.xor_zero] at e
    exact ⟨_, e⟩
  · rintro ⟨q, rfl⟩
    exact ((div_unique hb (a := cl q b) (q := q) (r := 0) (by rw [Nat.xor_zero]) (by rw [bl_zero]; exact bl_pos.2 hb)).2).symm
theorem pmod_small {a b : Nat} (h : bl a < bl b) : pmod a b = a := by unfold pmod; rw [pdm_small h]
theorem pmod_xor {b : Nat} (hb : b ≠ 0) (a c : Nat) : pmod (a ^^^ c) b = pmod a b ^^^ pmod c b := by
  symm
  refine (div_unique hb (q := pquo a b ^^^ pquo c b) ?_ ?_).2
  · have e1 := div_eq hb a
    have e2 := div_eq hb c
    rw [cl_xor_left]
    calc a ^^^ c = (cl (pquo a b) b ^^^ pmod a b) ^^^ (cl (pquo c b) b ^^^ pmod c b) := by rw [← e1, ← e2]
      _ = _ := by ac_rfl
  · have h1 := pmod_lt hb a
    have h2 := pmod_lt hb c
    have := bl_xor_le (x := pmod a b) (y := pmod c b) (n := bl b - 1) (by omega) (by omega)
    omega
theorem dv_xor_pmod {b : Nat} (hb : b ≠ 0) (a : Nat) : Dv b (a ^^^ pmod a b) := by
  have e := div_eq hb a
  refine ⟨pquo a b, ?_⟩
  have := xor_eq_iff.1 e.symm
  exact this.symm
/-- Congruent. -/
theorem pmod_eq_iff {a c b : Nat} (hb : b ≠ 0) : pmod a b = pmod c b ↔ Dv b (a ^^^ c) := by
  rw [← pmod_eq_zero hb, pmod_xor hb, xor_eq_zero]
theorem pmod_pmod {b : Nat} (hb : b ≠ 0) (a : Nat) : pmod (pmod a b) b = pmod a b := pmod_small (pmod_lt hb a)
theorem pmod_cl_left {b : Nat} (hb : b ≠ 0) (a c : Nat) : pmod (cl (pmod a b) c) b = pmod (cl a c) b := by
  rw [pmod_eq_iff hb, ← cl_xor_left, Nat.xor_comm]
  exact (dv_xor_pmod hb a).mul_right c
theorem pmod_cl_right {b : Nat} (hb : b ≠ 0) (a c : Nat) : pmod (cl a (pmod c b)) b = pmod (cl a c) b := by
  rw [cl_comm, pmod_cl_left hb, cl_comm]
theorem pmod_self_mul {b : Nat} (hb : b ≠ 0) (q : Nat) : pmod (cl q b) b = 0 := (pmod_eq_zero hb).2 ⟨q, rfl⟩

/-- Euclid's greatest common divisor. -/
def pgcd (a b : Nat) : Nat := if h : b = 0 then a else pgcd b (pmod a b)
termination_by bl b
decreasing_by exact pmod_lt h a
theorem pgcd_zero (a : Nat) : pgcd a 0 = a := by rw [pgcd]; simp
theorem pgcd_step {a b : Nat} (h : b ≠ 0) : pgcd a b = pgcd b (pmod a b) := by rw [pgcd]; simp [h]
theorem pgcd_spec : ∀ (n a b : Nat), bl b ≤ n → (Dv (pgcd a b) a ∧ Dv (pgcd a b) b) ∧ ∃ u v, pgcd a b = cl u a ^^^ cl v b := by
  intro n
  induction n with
  | zero =>
    intro a b h
    have : b = 0 := bl_eq_zero.1 (by omega)
    subst this
    rw [pgcd_zero]
    exact ⟨⟨Dv.refl a, Dv.zero a⟩, 1, 0, by rw [one_cl, zero_cl, Nat.xor_zero]⟩
  | succ n ih =>
    intro a b h
    by_cases hb : b = 0
    · subst hb
      rw [pgcd_zero]
      exact ⟨⟨Dv.refl a, Dv.zero a⟩, 1, 0, by rw [one_cl, zero_cl, Nat.xor_zero]⟩
    · have hl := pmod_lt hb a
      obtain ⟨⟨d1, d2⟩, u, v, e⟩ := ih b (pmod a b) (by omega)
      rw [pgcd_step hb]
      refine ⟨⟨?_, d1⟩, v, u ^^^ cl v (pquo a b), ?_⟩
      · have h3 := (d1.mul_left (pquo a b)).xor d2
        rwa [← div_eq hb a] at h3
      · rw [e]
        have h2 : pmod a b = a ^^^ cl (pquo a b) b := by
          have := div_eq hb a
          rw [Nat.xor_comm] at this
          exact xor_eq_iff.1 this.symm
        rw [cl_xor_left, cl_assoc]
        have : cl v (pmod a b) = cl v a ^^^ cl v (cl (pquo a b) b) := by rw [← cl_xor_right, ← h2]
        rw [this]
        ac_rfl
theorem pgcd_dv_left (a b : Nat) : Dv (pgcd a b) a := (pgcd_spec _ a b (Nat.le_refl _)).1.1
theorem pgcd_dv_right (a b : Nat) : Dv (pgcd a b) b := (pgcd_spec _ a b (Nat.le_refl _)).1.2
theorem pgcd_bezout (a b : Nat) : ∃ u v, pgcd a b = cl u a ^^^ cl v b := (pgcd_spec _ a b (Nat.le_refl _)).2
theorem dv_pgcd {d a b : Nat} (h : Dv d a) (k : Dv d b) : Dv d (pgcd a b) := by
  obtain ⟨u, v, e⟩ := pgcd_bezout a b
  rw [e]
  exact (h.mul_left u).xor (k.mul_left v)
theorem pgcd_unique {g a b : Nat} (h1 : Dv g a) (h2 : Dv g b) (h3 : ∀ d, Dv d a → Dv d b → Dv d g) : g = pgcd a b :=
  (dv_pgcd h1 h2).antisymm (h3 _ (pgcd_dv_left a b) (pgcd_dv_right a b))
theorem pgcd_comm (a b : Nat) : pgcd a b = pgcd b a :=
  pgcd_unique (pgcd_dv_right a b) (pgcd_dv_left a b) fun _ h k => dv_pgcd k h
theorem pgcd_cl (c a b : Nat) : pgcd (cl c a) (cl c b) = cl c (pgcd a b) := by
  by_cases hc : c = 0
  · subst hc; rw [zero_cl, zero_cl, zero_cl, pgcd_zero]
  · symm
    obtain ⟨u, v, e⟩ := pgcd_bezout a b
    refine pgcd_unique ?_ ?_ ?_
    · obtain ⟨q, hq⟩ := pgcd_dv_left a b
      exact ⟨q, by rw [cl_left_comm, ← hq]⟩
    · obtain ⟨q, hq⟩ := pgcd_dv_right a b
      exact ⟨q, by rw [cl_left_comm, ← hq]⟩
    · intro d h k
      rw [e, cl_xor_right, cl_left_comm, cl_left_comm c v]
      exact (h.mul_left u).xor (k.mul_left v)
theorem pgcd_eq_zero {a b : Nat} : pgcd a b = 0 ↔ a = 0 ∧ b = 0 := by
  constructor
  · intro h
    have h1 := pgcd_dv_left a b
    have h2 := pgcd_dv_right a b
    rw [h] at h1 h2
    exact ⟨zero_dv h1, zero_dv h2⟩
  · rintro ⟨rfl, rfl⟩; exact pgcd_zero 0
theorem pgcd_pmod {p : Nat} (hp : p ≠ 0) (a : Nat) : pgcd (pmod a p) p = pgcd a p := by
  refine (pgcd_unique ?_ (pgcd_dv_right a p) ?_).symm
  · have := (pgcd_dv_right a p).trans (dv_xor_pmod hp a)
    rw [Nat.xor_comm] at this
    exact this.of_xor (pgcd_dv_left a p)
  · intro d h k
    have := k.trans (dv_xor_pmod hp a)
    exact dv_pgcd (this.of_xor h) k

/-- A polynomial of a degree from 1 on that is no product of two such. -/
def Irr (p : Nat) : Prop := 2 ≤ p ∧ ∀ d e, p = cl d e → d = 1 ∨ e = 1
theorem Irr.gcd {p : Nat} (h : Irr p) (a : Nat) : Dv p a ∨ pgcd a p = 1 := by
  obtain ⟨q, hq⟩ := pgcd_dv_right a p
  rcases h.2 _ _ hq with e | e
  · subst e
    rw [one_cl] at hq
    left
    have := pgcd_dv_left a p
    rwa [← hq] at this
  · exact .inr e
theorem Irr.prime {p : Nat} (h : Irr p) {a b : Nat} (k : Dv p (cl a b)) : Dv p a ∨ Dv p b := by
  rcases h.gcd a with d | e
  · exact .inl d
  · right
    obtain ⟨u, v, e2⟩ := pgcd_bezout a p
    rw [e] at e2
    have h1 : b = cl (cl u a) b ^^^ cl (cl v p) b := by rw [← cl_xor_left, ← e2, one_cl]
    have h2 : Dv p (cl (cl u a) b) := by rw [cl_assoc]; exact k.mul_left u
    have h3 : Dv p (cl (cl v p) b) := ((Dv.refl p).mul_left v).mul_right b
    have h4 := h2.xor h3
    rwa [← h1] at h4
theorem irr_factor : ∀ (n a : Nat), bl a ≤ n → 2 ≤ a → ∃ q, Irr q ∧ Dv q a := by
  intro n
  induction n with
  | zero =>
    intro a h h2
    have := bl_eq_zero.1 (show bl a = 0 by omega)
    omega
  | succ n ih =>
    intro a h h2
    by_cases hi : Irr a
    · exact ⟨a, hi, Dv.refl a⟩
    · have hne : ¬ ∀ d e, a = cl d e → d = 1 ∨ e = 1 := fun k => hi ⟨h2, k⟩
      obtain ⟨d, hd⟩ := Classical.not_forall.1 hne
      obtain ⟨e, he⟩ := Classical.not_forall.1 hd
      have hae : a = cl d e := Classical.not_imp.1 he |>.1
      have hde := not_or.1 (Classical.not_imp.1 he).2
      have hd0 : d ≠ 0 := by rintro rfl; rw [zero_cl] at hae; omega
      have he0 : e ≠ 0 := by rintro rfl; rw [cl_zero] at hae; omega
      have hb := bl_cl hd0 he0
      rw [← hae] at hb
      have hel : 2 ≤ bl e := by
        have : 1 < bl e := lt_bl.2 (by omega)
        omega
      obtain ⟨q, hq, hq2⟩ := ih d (by omega) (by omega)
      exact ⟨q, hq, by rw [hae]; exact hq2.mul_right e⟩

/-- Powers. -/
def pp (a : Nat) : Nat → Nat
  | 0 => 1
  | n + 1 => cl (pp a n) a
theorem pp_succ (a n : Nat) : pp a (n + 1) = cl (pp a n) a := rfl
theorem pp_add (a m n : Nat) : pp a (m + n) = cl (pp a m) (pp a n) := by
  induction n with
  | zero => rw [Nat.add_zero, pp, cl_one]
  | succ n ih => rw [← Nat.add_assoc, pp, pp, ih, cl_assoc]
theorem pp_mul (a m n : Nat) : pp a (m * n) = pp (pp a m) n := by
  induction n with
  | zero => rfl
  | succ n ih => rw [Nat.mul_succ, pp_add, ih, pp]
theorem pp_one (a : Nat) : pp a 1 = a := by rw [pp, pp, one_cl]
theorem one_pp (n : Nat) : pp 1 n = 1 := by
  induction n with
  | zero => rfl
  | succ n ih => rw [pp, ih, cl_one]
theorem pp_cl (a b n : Nat) : pp (cl a b) n = cl (pp a n) (pp b n) := by
  induction n with
  | zero => rw [pp, pp, pp, one_cl]
  | succ n ih => rw [pp, pp, pp, ih]; ac_rfl
theorem pp_two (a : Nat) : pp a 2 = cl a a := by rw [pp, pp_one]
theorem sq_xor (a b : Nat) : cl (a ^^^ b) (a ^^^ b) = cl a a ^^^ cl b b := by
  rw [cl_xor_left, cl_xor_right, cl_xor_right, cl_comm b a, Nat.xor_assoc, xor_cancel_left]
theorem pp_ne {a : Nat} (h : a ≠ 0) (n : Nat) : pp a n ≠ 0 := by
  induction n with
  | zero => rw [pp]; omega
  | succ n ih => rw [pp]; exact cl_ne ih h
theorem pp_pmod {p : Nat} (hp : p ≠ 0) (a n : Nat) : pmod (pp (pmod a p) n) p = pmod (pp a n) p := by
  induction n with
  | zero => rfl
  | succ n ih => rw [pp, pp, ← pmod_cl_left hp, ih, pmod_cl_left hp, pmod_cl_right hp]
theorem pp_frob (a b : Nat) (i : Nat) : pp (a ^^^ b) (2 ^ i) = pp a (2 ^ i) ^^^ pp b (2 ^ i) := by
  induction i with
  | zero => rw [Nat.pow_zero, pp_one, pp_one, pp_one]
  | succ i ih => rw [Nat.pow_succ, pp_mul, pp_mul, pp_mul, ih, pp_two, pp_two, pp_two, sq_xor]

/-- A list's product. -/
def prodl : List Nat → Nat
  | [] => 1
  | x :: l => cl x (prodl l)
theorem prodl_perm {l m : List Nat} (h : l.Perm m) : prodl l = prodl m := by
  induction h with
  | nil => rfl
  | cons x _ ih => rw [prodl, prodl, ih]
  | swap x y l => rw [prodl, prodl, prodl, prodl, cl_left_comm]
  | trans _ _ h1 h2 => rw [h1, h2]
theorem prodl_map_cl (a : Nat) (l : List Nat) : prodl (l.map (cl a)) = cl (pp a l.length) (prodl l) := by
  induction l with
  | nil => rw [List.map_nil, List.length_nil, prodl, pp, one_cl]
  | cons x l ih => rw [List.map_cons, prodl, prodl, ih, List.length_cons, pp]; ac_rfl
theorem prodl_map_pmod {p : Nat} (hp : p ≠ 0) (f : Nat → Nat) (l : List Nat) :
    pmod (prodl (l.map fun x => pmod (f x) p)) p = pmod (prodl (l.map f)) p := by
  induction l with
  | nil => rfl
  | cons x l ih =>
    rw [List.map_cons, List.map_cons, prodl, prodl, pmod_cl_left hp, ← pmod_cl_right hp, ih, pmod_cl_right hp]
theorem perm_of_subset : ∀ {l m : List Nat}, l.Nodup → (∀ x ∈ l, x ∈ m) → m.length ≤ l.length → l.Perm m := by
  intro l
  induction l with
  | nil =>
    intro m _ _ h
    have : m = [] := List.length_eq_zero_iff.1 (by simpa using h)
    subst this
    exact List.Perm.refl _
  | cons x l ih =>
    intro m hn hs hl
    have hx : x ∈ m := hs x (by simp)
    have hp := List.perm_cons_erase hx
    rw [List.nodup_cons] at hn
    refine List.Perm.trans (List.Perm.cons x (ih hn.2 ?_ ?_)) hp.symm
    · intro y hy
      have hne : y ≠ x := by rintro rfl; exact hn.1 hy
      exact (List.mem_erase_of_ne hne).2 (hs y (by simp [hy]))
    · have := hp.length_eq
      rw [List.length_cons] at this hl
      omega
theorem nodup_map {f : Nat → Nat} : ∀ {l : List Nat}, l.Nodup → (∀ x ∈ l, ∀ y ∈ l, f x = f y → x = y) → (l.map f).Nodup := by
  intro l
  induction l with
  | nil => intro _ _; exact List.nodup_nil
  | cons x l ih =>
    intro hn hi
    rw [List.nodup_cons] at hn
    rw [List.map_cons, List.nodup_cons]
    refine ⟨?_, ih hn.2 fun y hy z hz => hi y (by simp [hy]) z (by simp [hz])⟩
    intro hm
    obtain ⟨y, hy, e⟩ := List.mem_map.1 hm
    have := hi y (by simp [hy]) x (by simp) e
    subst this
    exact hn.1 hy
theorem prodl_ndv {p : Nat} (h : Irr p) : ∀ l : List Nat, (∀ x ∈ l, ¬ Dv p x) → ¬ Dv p (prodl l) := by
  intro l
  induction l with
  | nil =>
    intro _ hd
    rw [prodl] at hd
    have h1 := hd.bl_le (by decide)
    have h2 : 1 < bl p := lt_bl.2 h.1
    rw [bl_one] at h1
    omega
  | cons x l ih =>
    intro hx hd
    rw [prodl] at hd
    rcases h.prime hd with e | e
    · exact hx x (by simp) e
    · exact ih (fun y hy => hx y (by simp [hy])) e
theorem Irr.ne {p : Nat} (h : Irr p) : p ≠ 0 := by have := h.1; omega
theorem Irr.cancel {p : Nat} (h : Irr p) {a b c : Nat} (hc : ¬ Dv p c) (e : pmod (cl a c) p = pmod (cl b c) p) : pmod a p = pmod b p := by
  rw [pmod_eq_iff h.ne, ← cl_xor_left] at e
  rcases h.prime e with k | k
  · exact (pmod_eq_iff h.ne).2 k
  · exact absurd k hc
/-- Fermat: modulo an irreducible p of degree d, a to the 2^d - 1 is 1 where p doesn't divide a. -/
theorem fermat {p d : Nat} (h : Irr p) (hd : bl p = d + 1) {a : Nat} (ha : ¬ Dv p a) : pmod (pp a (2 ^ d - 1)) p = 1 := by
  have hp := h.ne
  have hd1 : 1 ≤ d := by have : 1 < bl p := lt_bl.2 h.1; omega
  have hpow : 0 < 2 ^ d := Nat.two_pow_pos d
  let L := (List.range (2 ^ d - 1)).map (· + 1)
  have hL : ∀ x, x ∈ L ↔ 1 ≤ x ∧ x < 2 ^ d := by
    intro x
    simp only [L, List.mem_map, List.mem_range]
    constructor
    · rintro ⟨y, hy, rfl⟩; omega
    · intro hx; exact ⟨x - 1, by omega, by omega⟩
  have hlen : L.length = 2 ^ d - 1 := by simp [L]
  have hnd : ∀ x ∈ L, ¬ Dv p x := by
    intro x hx k
    have hx := (hL x).1 hx
    have h1 := k.bl_le (by omega)
    have h2 := bl_le.2 hx.2
    omega
  have hN : L.Nodup := nodup_map List.nodup_range (by intro x _ y _ e; simpa using e)
  have hperm : (L.map fun x => pmod (cl a x) p).Perm L := by
    refine perm_of_subset (nodup_map hN ?_) ?_ (by simp)
    · intro x hx y hy e
      have e2 : pmod x p = pmod y p := h.cancel ha (by rw [cl_comm x, cl_comm y]; exact e)
      have hx := (hL x).1 hx
      have hy := (hL y).1 hy
      rw [pmod_small (by rw [hd]; have := bl_le.2 hx.2; omega), pmod_small (by rw [hd]; have := bl_le.2 hy.2; omega)] at e2
      exact e2
    · intro y hy
      obtain ⟨x, hx, rfl⟩ := List.mem_map.1 hy
      refine (hL _).2 ⟨?_, ?_⟩
      · have : pmod (cl a x) p ≠ 0 := by
          intro e
          rcases h.prime ((pmod_eq_zero hp).1 e) with k | k
          · exact ha k
          · exact hnd x hx k
        omega
      · exact bl_le.1 (by have := pmod_lt hp (cl a x); omega)
  have e1 := prodl_perm hperm
  have e2 := prodl_map_pmod hp (cl a) L
  rw [e1, prodl_map_cl, hlen] at e2
  have e3 : pmod (cl 1 (prodl L)) p = pmod (cl (pp a (2 ^ d - 1)) (prodl L)) p := by rw [one_cl]; exact e2
  have e4 := h.cancel (prodl_ndv h L hnd) e3
  rw [← e4]
  exact pmod_small (by rw [bl_one, hd]; omega)
theorem fermat' {p d : Nat} (h : Irr p) (hd : bl p = d + 1) (a : Nat) : pmod (pp a (2 ^ d)) p = pmod a p := by
  have hpow : 0 < 2 ^ d := Nat.two_pow_pos d
  by_cases ha : Dv p a
  · have h1 := (pmod_eq_zero h.ne).2 ha
    rw [h1]
    apply (pmod_eq_zero h.ne).2
    rw [show 2 ^ d = (2 ^ d - 1) + 1 from by omega, pp]
    exact ha.mul_left _
  · rw [show 2 ^ d = (2 ^ d - 1) + 1 from by omega, pp, ← pmod_cl_left h.ne, fermat h hd ha, one_cl]
end GP
