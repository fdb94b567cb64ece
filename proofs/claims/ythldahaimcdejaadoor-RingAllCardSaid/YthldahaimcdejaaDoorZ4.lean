
section
/- Polynomials over GF(2) as numbers: product, division, greatest common divisor, irreducible polynomials, Fermat. Plain Lean. -/
set_option linter.unusedVariables false
namespace GP

theorem two_xor (x y : Nat) : 2 * (x ^^^ y) = (2 * x) ^^^ (2 * y) := by
  have := Nat.shiftLeft_xor_distrib (i := 1) (a := x) (b := y)
  simpa [Nat.shiftLeft_eq, Nat.mul_comm] using this

theorem xor_mod2 (x y : Nat) : (x ^^^ y) % 2 = (x % 2) ^^^ (y % 2) := by
  have := Nat.xor_mod_two_pow (a := x) (b := y) (n := 1)
  simpa using this

theorem xor_left_comm (a b c : Nat) : a ^^^ (b ^^^ c) = b ^^^ (a ^^^ c) := by
  rw [← Nat.xor_assoc, Nat.xor_comm a b, Nat.xor_assoc]
theorem xor_cancel_left (a b : Nat) : a ^^^ (a ^^^ b) = b := by
  rw [← Nat.xor_assoc, Nat.xor_self, Nat.zero_xor]
theorem xor_cancel_right (a b : Nat) : (b ^^^ a) ^^^ a = b := by
  rw [Nat.xor_assoc, Nat.xor_self, Nat.xor_zero]
theorem xor_eq_zero {a b : Nat} : a ^^^ b = 0 ↔ a = b := by
  constructor
  · intro h
    have := xor_cancel_left a b
    rw [h, Nat.xor_zero] at this
    exact this
  · rintro rfl; exact Nat.xor_self a
theorem xor_eq_iff {a b c : Nat} : a ^^^ b = c ↔ a = c ^^^ b := by
  constructor
  · rintro rfl; rw [xor_cancel_right]
  · rintro rfl; rw [xor_cancel_right]

/-- The product of two polynomials over GF(2), each as the bits of a number. -/
def cl (a b : Nat) : Nat := if h : b = 0 then 0 else (if b % 2 = 1 then a else 0) ^^^ (2 * cl a (b / 2))
termination_by b
decreasing_by omega

theorem cl_zero (a : Nat) : cl a 0 = 0 := by rw [cl]; simp
theorem cl_step (a b : Nat) : cl a b = (if b % 2 = 1 then a else 0) ^^^ (2 * cl a (b / 2)) := by
  by_cases h : b = 0
  · subst h; simp [cl_zero]
  · rw [cl]; simp [h]
theorem cl_bit0 (a b : Nat) : cl a (2 * b) = 2 * cl a b := by
  rw [cl_step]
  rw [if_neg (by omega), Nat.zero_xor, show 2 * b / 2 = b from by omega]
theorem cl_bit1 (a b : Nat) : cl a (2 * b + 1) = a ^^^ (2 * cl a b) := by
  rw [cl_step]
  rw [if_pos (by omega), show (2 * b + 1) / 2 = b from by omega]
theorem cl_one (a : Nat) : cl a 1 = a := by
  have := cl_bit1 a 0
  simpa [cl_zero] using this

/-- Induction along the bits. -/
theorem bits_ind {P : Nat → Prop} (h0 : P 0) (h1 : ∀ b, b ≠ 0 → P (b / 2) → P b) (b : Nat) : P b := by
  induction b using Nat.strongRecOn with
  | _ b ih =>
    by_cases h : b = 0
    · subst h; exact h0
    · exact h1 b h (ih _ (by omega))

theorem zero_cl (b : Nat) : cl 0 b = 0 := by
  induction b using bits_ind with
  | h0 => exact cl_zero 0
  | h1 b h ih => rw [cl_step, ih]; simp
theorem cl_xor_left (a c b : Nat) : cl (a ^^^ c) b = cl a b ^^^ cl c b := by
  induction b using bits_ind with
  | h0 => simp [cl_zero]
  | h1 b h ih =>
    rw [cl_step, cl_step a b, cl_step c b, ih, two_xor]
    by_cases hb : b % 2 = 1
    · simp only [hb, if_true]; ac_rfl
    · simp only [hb, if_false, Nat.zero_xor]
theorem half_xor (a b : Nat) : (a ^^^ b) / 2 = a / 2 ^^^ b / 2 := Nat.xor_div_two
theorem cl_xor_right (a : Nat) : ∀ b c : Nat, cl a (b ^^^ c) = cl a b ^^^ cl a c := by
  intro b
  induction b using bits_ind with
  | h0 => intro c; simp [cl_zero]
  | h1 b h ih =>
    intro c
    rw [cl_step, cl_step a b, cl_step a c, half_xor, ih, two_xor, xor_mod2]
    rcases Nat.mod_two_eq_zero_or_one b with hb | hb <;> rcases Nat.mod_two_eq_zero_or_one c with hc | hc <;> rw [hb, hc] <;> simp
    · ac_rfl
    · ac_rfl
    · have : ∀ x y : Nat, x ^^^ y = (a ^^^ x) ^^^ (a ^^^ y) := by
        intro x y
        rw [Nat.xor_comm a x, Nat.xor_assoc, xor_cancel_left]
      exact this _ _
theorem two_cl (a b : Nat) : cl (2 * a) b = 2 * cl a b := by
  induction b using bits_ind with
  | h0 => simp [cl_zero]
  | h1 b h ih =>
    rw [cl_step, cl_step a b, ih, two_xor]
    by_cases hb : b % 2 = 1 <;> simp [hb]
theorem one_cl (b : Nat) : cl 1 b = b := by
  induction b using bits_ind with
  | h0 => exact cl_zero 1
  | h1 b h ih =>
    rw [cl_step, ih]
    have e : b = 2 * (b / 2) + b % 2 := by omega
    rcases Nat.mod_two_eq_zero_or_one b with hb | hb
    · rw [if_neg (by omega), Nat.zero_xor]; omega
    · rw [if_pos hb]
      have : 1 ^^^ (2 * (b / 2)) = 2 * (b / 2) + 1 := by
        have h2 := Nat.two_pow_add_eq_or_of_lt (i := 1) (b := 1) (by decide) (b / 2)
        apply Nat.eq_of_testBit_eq
        intro i
        cases i with
        | zero => simp
        | succ i => simp [Nat.testBit_succ]; rw [show (2 * (b / 2) + 1) / 2 = b / 2 from by omega, Nat.xor_div_two]; simp
      omega
theorem cl_comm (a : Nat) : ∀ b : Nat, cl a b = cl b a := by
  induction a using bits_ind with
  | h0 => intro b; rw [zero_cl, cl_zero]
  | h1 a h ih =>
    intro b
    rw [cl_step b a, ← ih b]
    have e : a = (a % 2) ^^^ (2 * (a / 2)) := by
      have := one_cl a
      rw [cl_step, one_cl] at this
      rcases Nat.mod_two_eq_zero_or_one a with ha | ha <;> rw [ha] at this ⊢ <;> simp at this ⊢ <;> exact this.symm
    have e2 : cl a b = cl (a % 2) b ^^^ cl (2 * (a / 2)) b := by
      rw [← cl_xor_left, ← e]
    rw [e2, two_cl]
    rcases Nat.mod_two_eq_zero_or_one a with ha | ha <;> rw [ha] <;> simp [zero_cl, one_cl]
theorem cl_assoc (a b : Nat) : ∀ c : Nat, cl (cl a b) c = cl a (cl b c) := by
  intro c
  induction c using bits_ind with
  | h0 => simp [cl_zero]
  | h1 c h ih =>
    rw [cl_step (cl a b) c, cl_step b c, cl_xor_right, ih, cl_bit0]
    by_cases hc : c % 2 = 1 <;> simp [hc, cl_zero]
theorem cl_left_comm (a b c : Nat) : cl a (cl b c) = cl b (cl a c) := by
  rw [← cl_assoc, cl_comm a b, cl_assoc]
instance : Std.Associative cl := ⟨fun a b c => cl_assoc a b c⟩
instance : Std.Commutative cl := ⟨fun a b => cl_comm a b⟩
theorem cl_pow (a s : Nat) : cl a (2 ^ s) = a * 2 ^ s := by
  induction s with
  | zero => simp [cl_one]
  | succ s ih => rw [Nat.pow_succ, Nat.mul_comm (2 ^ s) 2, cl_bit0, ih]; ac_rfl
theorem pow_cl (a s : Nat) : cl (2 ^ s) a = a * 2 ^ s := by rw [cl_comm, cl_pow]

/-- How many bits a number has: the degree and one. -/
def bl (x : Nat) : Nat := if x = 0 then 0 else x.log2 + 1
theorem bl_zero : bl 0 = 0 := rfl
theorem bl_le {x n : Nat} : bl x ≤ n ↔ x < 2 ^ n := by
  unfold bl
  by_cases h : x = 0
  · subst h; simp [Nat.two_pow_pos]
  · rw [if_neg h, ← Nat.log2_lt h]; omega
theorem lt_bl {x n : Nat} : n < bl x ↔ 2 ^ n ≤ x := by
  have := @bl_le x n
  omega
theorem lt_pow_bl (x : Nat) : x < 2 ^ bl x := bl_le.1 (Nat.le_refl _)
theorem bl_eq_zero {x : Nat} : bl x = 0 ↔ x = 0 := by
  have := @bl_le x 0
  rw [Nat.pow_zero] at this
  omega
theorem bl_pos {x : Nat} : 0 < bl x ↔ x ≠ 0 := by
  have := @bl_eq_zero x
  omega
theorem bl_eq {x n : Nat} (h : 2 ^ n ≤ x) (h' : x < 2 ^ (n + 1)) : bl x = n + 1 := by
  have := lt_bl.2 h
  have := bl_le.2 h'
  omega
theorem bl_one : bl 1 = 1 := bl_eq (n := 0) (by decide) (by decide)
theorem bl_ge {x : Nat} (h : x ≠ 0) : 2 ^ (bl x - 1) ≤ x := by
  have := bl_pos.2 h
  exact lt_bl.1 (by omega)
theorem bl_mono {x y : Nat} (h : x ≤ y) : bl x ≤ bl y := bl_le.2 (Nat.lt_of_le_of_lt h (lt_pow_bl y))
theorem bl_xor_le {x y n : Nat} (hx : bl x ≤ n) (hy : bl y ≤ n) : bl (x ^^^ y) ≤ n :=
  bl_le.2 (Nat.xor_lt_two_pow (bl_le.1 hx) (bl_le.1 hy))
theorem top_bit {x n : Nat} (h : bl x = n + 1) : x.testBit n = true := by
  have h1 : 2 ^ n ≤ x := lt_bl.1 (by omega)
  have h2 : x < 2 ^ (n + 1) := bl_le.1 (by omega)
  rw [Nat.testBit_eq_decide_div_mod_eq]
  have : x / 2 ^ n = 1 := by
    apply Nat.div_eq_of_lt_le <;> rw [Nat.pow_succ] at * <;> omega
  simp [this]
theorem bl_of_bit {x n : Nat} (h : x.testBit n = true) : n < bl x := lt_bl.2 (Nat.ge_two_pow_of_testBit h)
theorem bit_of_bl {x n : Nat} (h : bl x ≤ n) : x.testBit n = false := Nat.testBit_lt_two_pow (bl_le.1 h)
theorem bl_xor_of_lt {x y : Nat} (h : bl y < bl x) : bl (x ^^^ y) = bl x := by
  obtain ⟨n, hn⟩ : ∃ n, bl x = n + 1 := ⟨bl x - 1, by omega⟩
  have h1 : (x ^^^ y).testBit n = true := by
    rw [Nat.testBit_xor, top_bit hn, bit_of_bl (by omega)]; rfl
  have := bl_of_bit h1
  have := bl_xor_le (x := x) (y := y) (n := bl x) (Nat.le_refl _) (by omega)
  omega
theorem bl_xor_lt {x y : Nat} (h : bl x = bl y) (hx : x ≠ 0) : bl (x ^^^ y) < bl x := by
  obtain ⟨n, hn⟩ : ∃ n, bl x = n + 1 := ⟨bl x - 1, by have := bl_pos.2 hx; omega⟩
  have h1 : (x ^^^ y).testBit n = false := by
    rw [Nat.testBit_xor, top_bit hn, top_bit (h ▸ hn)]; rfl
  have h2 := bl_xor_le (x := x) (y := y) (n := bl x) (Nat.le_refl _) (by omega)
  by_cases h3 : bl (x ^^^ y) = n + 1
  · rw [top_bit h3] at h1; cases h1
  · omega
theorem bl_shift {x : Nat} (h : x ≠ 0) (s : Nat) : bl (x * 2 ^ s) = bl x + s := by
  have h0 := bl_pos.2 h
  have h1 := bl_ge h
  have h2 := lt_pow_bl x
  rw [show bl x + s = (bl x - 1 + s) + 1 from by omega]
  apply bl_eq
  · rw [Nat.pow_add]; exact Nat.mul_le_mul_right _ h1
  · rw [show bl x - 1 + s + 1 = bl x + s from by omega, Nat.pow_add]
    exact Nat.mul_lt_mul_of_pos_right h2 (Nat.two_pow_pos s)
theorem bl_double {x : Nat} (h : x ≠ 0) : bl (2 * x) = bl x + 1 := by
  have := bl_shift h 1
  rwa [Nat.pow_one, Nat.mul_comm] at this
theorem bl_half (x : Nat) : bl (x / 2) = bl x - 1 := by
  by_cases h : x / 2 = 0
  · rw [h]
    have : x < 2 ^ 1 := by omega
    have := bl_le.2 this
    rw [bl_zero]; omega
  · have e := bl_double h
    have h1 : bl (2 * (x / 2)) ≤ bl x := bl_mono (by omega)
    have h2 : bl x ≤ bl (2 * (x / 2)) := by
      rw [e]
      apply bl_le.2
      have := lt_pow_bl (x / 2)
      rw [Nat.pow_succ]; omega
    omega
theorem bl_cl {a b : Nat} (ha : a ≠ 0) : b ≠ 0 → bl (cl a b) + 1 = bl a + bl b := by
  induction b using bits_ind with
  | h0 => intro h; exact absurd rfl h
  | h1 b hb ih =>
    intro _
    rw [cl_step]
    by_cases h : b / 2 = 0
    · have hb1 : b = 1 := by omega
      subst hb1
      rw [show (1 : Nat) / 2 = 0 from rfl, cl_zero, bl_one]; simp
    · have e := ih h
      have hp := bl_pos.2 ha
      have hc : cl a (b / 2) ≠ 0 := bl_pos.1 (by have := bl_pos.2 h; omega)
      have e2 := bl_double hc
      have e3 := bl_half b
      have hb2 := bl_pos.2 hb
      have hb3 := bl_pos.2 h
      by_cases ho : b % 2 = 1
      · rw [if_pos ho, Nat.xor_comm, bl_xor_of_lt (by omega)]; omega
      · rw [if_neg ho, Nat.zero_xor]; omega
theorem cl_ne {a b : Nat} (ha : a ≠ 0) (hb : b ≠ 0) : cl a b ≠ 0 := by
  apply bl_pos.1
  have := bl_cl ha hb
  have := bl_pos.2 ha
  have := bl_pos.2 hb
  omega
theorem cl_eq_zero {a b : Nat} : cl a b = 0 ↔ a = 0 ∨ b = 0 := by
  constructor
  · intro h
    by_cases ha : a = 0
    · exact .inl ha
    · by_cases hb : b = 0
      · exact .inr hb
      · exact absurd h (cl_ne ha hb)
  · rintro (rfl | rfl)
    · exact zero_cl b
    · exact cl_zero a
theorem cl_cancel {a b c : Nat} (ha : a ≠ 0) (h : cl a b = cl a c) : b = c := by
  have : cl a (b ^^^ c) = 0 := by rw [cl_xor_right, h, Nat.xor_self]
  rcases cl_eq_zero.1 this with h | h
  · exact absurd h ha
  · exact xor_eq_zero.1 h
theorem cl_eq_one {a b : Nat} (h : cl a b = 1) : a = 1 ∧ b = 1 := by
  have ha : a ≠ 0 := by rintro rfl; rw [zero_cl] at h; cases h
  have hb : b ≠ 0 := by rintro rfl; rw [cl_zero] at h; cases h
  have := bl_cl ha hb
  rw [h, bl_one] at this
  have := bl_pos.2 ha
  have := bl_pos.2 hb
  have ha1 : a < 2 ^ 1 := bl_le.1 (by omega)
  have hb1 : b < 2 ^ 1 := bl_le.1 (by omega)
  omega

/-- Quotient and remainder. -/
def pdm (a b : Nat) : Nat × Nat :=
  if h : b = 0 ∨ bl a < bl b then (0, a)
  else ((pdm (a ^^^ b * 2 ^ (bl a - bl b)) b).1 ^^^ 2 ^ (bl a - bl b), (pdm (a ^^^ b * 2 ^ (bl a - bl b)) b).2)
termination_by bl a
decreasing_by
  all_goals
    have hb : b ≠ 0 := fun e => h (.inl e)
    have ha : a ≠ 0 := bl_pos.1 (by have := bl_pos.2 hb; have hl : ¬ bl a < bl b := fun e => h (.inr e); omega)
    exact bl_xor_lt (by have hl : ¬ bl a < bl b := fun e => h (.inr e); have e := bl_shift hb (bl a - bl b); omega) ha
def pquo (a b : Nat) : Nat := (pdm a b).1
def pmod (a b : Nat) : Nat := (pdm a b).2
theorem pdm_small {a b : Nat} (h : bl a < bl b) : pdm a b = (0, a) := by rw [pdm]; simp [h]
theorem pdm_zero (a : Nat) : pdm a 0 = (0, a) := by rw [pdm]; simp
theorem pdm_step {a b : Nat} (hb : b ≠ 0) (h : bl b ≤ bl a) :
    pdm a b = ((pdm (a ^^^ b * 2 ^ (bl a - bl b)) b).1 ^^^ 2 ^ (bl a - bl b), (pdm (a ^^^ b * 2 ^ (bl a - bl b)) b).2) := by
  rw [pdm, dif_neg (by omega)]
theorem step_lt {a b : Nat} (hb : b ≠ 0) (h : bl b ≤ bl a) : bl (a ^^^ b * 2 ^ (bl a - bl b)) < bl a := by
  have e := bl_shift hb (bl a - bl b)
  have ha : a ≠ 0 := bl_pos.1 (by have := bl_pos.2 hb; omega)
  exact bl_xor_lt (by omega) ha
theorem pdm_spec {b : Nat} (hb : b ≠ 0) : ∀ (n a : Nat), bl a ≤ n → a = cl (pquo a b) b ^^^ pmod a b ∧ bl (pmod a b) < bl b := by
  intro n
  induction n with
  | zero =>
    intro a ha
    have : bl a < bl b := by have := bl_pos.2 hb; omega
    unfold pquo pmod
    rw [pdm_small this, zero_cl, Nat.zero_xor]
    exact ⟨rfl, this⟩
  | succ n ih =>
    intro a ha
    by_cases h : bl a < bl b
    · unfold pquo pmod
      rw [pdm_small h, zero_cl, Nat.zero_xor]
      exact ⟨rfl, h⟩
    · have hl := step_lt hb (Nat.le_of_not_lt h)
      obtain ⟨e1, e2⟩ := ih (a ^^^ b * 2 ^ (bl a - bl b)) (by omega)
      have hs := pdm_step hb (Nat.le_of_not_lt h)
      have hq : pquo a b = pquo (a ^^^ b * 2 ^ (bl a - bl b)) b ^^^ 2 ^ (bl a - bl b) := by unfold pquo; rw [hs]
      have hr : pmod a b = pmod (a ^^^ b * 2 ^ (bl a - bl b)) b := by unfold pmod; rw [hs]
      rw [hq, hr]
      refine ⟨?_, e2⟩
      rw [cl_xor_left, pow_cl]
      rw [Nat.xor_assoc, Nat.xor_comm (b * 2 ^ (bl a - bl b)), ← Nat.xor_assoc, ← e1, xor_cancel_right]
theorem div_eq {b : Nat} (hb : b ≠ 0) (a : Nat) : a = cl (pquo a b) b ^^^ pmod a b := (pdm_spec hb _ a (Nat.le_refl _)).1
theorem pmod_lt {b : Nat} (hb : b ≠ 0) (a : Nat) : bl (pmod a b) < bl b := (pdm_spec hb _ a (Nat.le_refl _)).2
theorem div_unique {a b q r : Nat} (hb : b ≠ 0) (h : a = cl q b ^^^ r) (hr : bl r < bl b) : q = pquo a b ∧ r = pmod a b := by
  have e := div_eq hb a
  have l := pmod_lt hb a
  have e2 : cl (q ^^^ pquo a b) b = r ^^^ pmod a b := by
    have e3 : cl q b ^^^ r = cl (pquo a b) b ^^^ pmod a b := h ▸ e
    have e4 : (cl q b ^^^ r) ^^^ (cl (pquo a b) b ^^^ r) = (cl (pquo a b) b ^^^ pmod a b) ^^^ (cl (pquo a b) b ^^^ r) := by rw [e3]
    rw [cl_xor_left]
    calc cl q b ^^^ cl (pquo a b) b = (cl q b ^^^ r) ^^^ (cl (pquo a b) b ^^^ r) := by
          rw [Nat.xor_assoc, xor_left_comm r, Nat.xor_self, Nat.xor_zero]
      _ = (cl (pquo a b) b ^^^ pmod a b) ^^^ (cl (pquo a b) b ^^^ r) := e4
      _ = r ^^^ pmod a b := by
          rw [Nat.xor_assoc, xor_left_comm (pmod a b), xor_cancel_left, Nat.xor_comm]
  have hq : q ^^^ pquo a b = 0 := by
    by_cases hz : q ^^^ pquo a b = 0
    · exact hz
    · have h1 := bl_cl hz hb
      have h2 := bl_pos.2 hz
      rw [e2] at h1
      have h3 := bl_xor_le (x := r) (y := pmod a b) (n := bl b - 1) (by omega) (by omega)
      omega
  rw [hq, zero_cl] at e2
  exact ⟨xor_eq_zero.1 hq, xor_eq_zero.1 e2.symm⟩

/-- d divides a. -/
def Dv (d a : Nat) : Prop := ∃ q, a = cl q d
theorem Dv.refl (a : Nat) : Dv a a := ⟨1, (one_cl a).symm⟩
theorem Dv.zero (d : Nat) : Dv d 0 := ⟨0, (zero_cl d).symm⟩
theorem Dv.one (a : Nat) : Dv 1 a := ⟨a, (cl_one a).symm⟩
theorem Dv.xor {d a b : Nat} (h : Dv d a) (k : Dv d b) : Dv d (a ^^^ b) := by
  obtain ⟨q, rfl⟩ := h
  obtain ⟨r, rfl⟩ := k
  exact ⟨q ^^^ r, (cl_xor_left q r d).symm⟩
theorem Dv.mul_left {d a : Nat} (h : Dv d a) (c : Nat) : Dv d (cl c a) := by
  obtain ⟨q, rfl⟩ := h
  exact ⟨cl c q, (cl_assoc c q d).symm⟩
theorem Dv.mul_right {d a : Nat} (h : Dv d a) (c : Nat) : Dv d (cl a c) := by
  rw [cl_comm]; exact h.mul_left c
theorem Dv.trans {a b c : Nat} (h : Dv a b) (k : Dv b c) : Dv a c := by
  obtain ⟨q, rfl⟩ := k
  exact h.mul_left q
theorem Dv.bl_le {d a : Nat} (h : Dv d a) (ha : a ≠ 0) : bl d ≤ bl a := by
  obtain ⟨q, rfl⟩ := h
  have hq : q ≠ 0 := by rintro rfl; exact ha (zero_cl d)
  have hd : d ≠ 0 := by rintro rfl; exact ha (cl_zero q)
  have := bl_cl hq hd
  have := bl_pos.2 hq
  omega
theorem Dv.antisymm {a b : Nat} (h : Dv a b) (k : Dv b a) : a = b := by
  obtain ⟨q, hq⟩ := h
  obtain ⟨r, hr⟩ := k
  by_cases ha : a = 0
  · subst ha; rw [cl_zero] at hq; exact hq.symm
  · rw [hq, ← cl_assoc] at hr
    have : cl a (cl r q) = cl a 1 := by rw [cl_comm, ← hr, cl_one]
    have := cl_eq_one (cl_cancel ha this)
    rw [hq, this.2, one_cl]
theorem Dv.of_xor {d a b : Nat} (h : Dv d (a ^^^ b)) (k : Dv d b) : Dv d a := by
  have := h.xor k
  rwa [xor_cancel_right] at this
theorem Dv.cancel {c a b : Nat} (hc : c ≠ 0) (h : Dv (cl c a) (cl c b)) : Dv a b := by
  obtain ⟨q, hq⟩ := h
  exact ⟨q, cl_cancel hc (by rw [hq, cl_left_comm])⟩
theorem pmod_eq_zero {a b : Nat} (hb : b ≠ 0) : pmod a b = 0 ↔ Dv b a := by
  constructor
  · intro h
    have e := div_eq hb a
    rw [h, Nat.xor_zero] at e
    exact ⟨_, e⟩
  · rintro ⟨q, rfl⟩
    exact ((div_unique hb (a := cl q b) (q := q) (r := 0) (by rw [Nat.xor_zero]) (by rw [bl_zero]; exact bl_pos.2 hb)).2).symm
theorem pmod_small {a b : Nat} (h : bl a < bl b) : pmod a b = a := by unfold pmod; rw [pdm_small h]
theorem pmod_xor {b : Nat} (hb : b ≠ 0) (a c : Nat) : pmod (a ^^^ c) b = pmod a b ^^^ pmod c b := by
  symm
  refine (div_unique hb (q := pquo a b ^^^ pquo c b) ?_ ?_).2
  · have e1 := div_eq hb a
    have e2 := div_eq hb c
    rw [cl_xor_left]
    calc a ^^^ c = (cl (pquo a b) b ^^^ pmod a b) ^^^ (cl (pquo c b) b ^^^ pmod c b) := by rw [← e1, ← e2]
      _ = _ := by ac_rfl
  · have h1 := pmod_lt hb a
    have h2 := pmod_lt hb c
    have := bl_xor_le (x := pmod a b) (y := pmod c b) (n := bl b - 1) (by omega) (by omega)
    omega
theorem dv_xor_pmod {b : Nat} (hb : b ≠ 0) (a : Nat) : Dv b (a ^^^ pmod a b) := by
  have e := div_eq hb a
  refine ⟨pquo a b, ?_⟩
  have := xor_eq_iff.1 e.symm
  exact this.symm
/-- Congruent. -/
theorem pmod_eq_iff {a c b : Nat} (hb : b ≠ 0) : pmod a b = pmod c b ↔ Dv b (a ^^^ c) := by
  rw [← pmod_eq_zero hb, pmod_xor hb, xor_eq_zero]
theorem pmod_pmod {b : Nat} (hb : b ≠ 0) (a : Nat) : pmod (pmod a b) b = pmod a b := pmod_small (pmod_lt hb a)
theorem pmod_cl_left {b : Nat} (hb : b ≠ 0) (a c : Nat) : pmod (cl (pmod a b) c) b = pmod (cl a c) b := by
  rw [pmod_eq_iff hb, ← cl_xor_left, Nat.xor_comm]
  exact (dv_xor_pmod hb a).mul_right c
theorem pmod_cl_right {b : Nat} (hb : b ≠ 0) (a c : Nat) : pmod (cl a (pmod c b)) b = pmod (cl a c) b := by
  rw [cl_comm, pmod_cl_left hb, cl_comm]
/-- Euclid's greatest common divisor. -/
def pgcd (a b : Nat) : Nat := if h : b = 0 then a else pgcd b (pmod a b)
termination_by bl b
decreasing_by exact pmod_lt h a
theorem pgcd_zero (a : Nat) : pgcd a 0 = a := by rw [pgcd]; simp
theorem pgcd_step {a b : Nat} (h : b ≠ 0) : pgcd a b = pgcd b (pmod a b) := by rw [pgcd]; simp [h]
theorem pgcd_spec : ∀ (n a b : Nat), bl b ≤ n → (Dv (pgcd a b) a ∧ Dv (pgcd a b) b) ∧ ∃ u v, pgcd a b = cl u a ^^^ cl v b := by
  intro n
  induction n with
  | zero =>
    intro a b h
    have : b = 0 := bl_eq_zero.1 (by omega)
    subst this
    rw [pgcd_zero]
    exact ⟨⟨Dv.refl a, Dv.zero a⟩, 1, 0, by rw [one_cl, zero_cl, Nat.xor_zero]⟩
  | succ n ih =>
    intro a b h
    by_cases hb : b = 0
    · subst hb
      rw [pgcd_zero]
      exact ⟨⟨Dv.refl a, Dv.zero a⟩, 1, 0, by rw [one_cl, zero_cl, Nat.xor_zero]⟩
    · have hl := pmod_lt hb a
      obtain ⟨⟨d1, d2⟩, u, v, e⟩ := ih b (pmod a b) (by omega)
      rw [pgcd_step hb]
      refine ⟨⟨?_, d1⟩, v, u ^^^ cl v (pquo a b), ?_⟩
      · have h3 := (d1.mul_left (pquo a b)).xor d2
        rwa [← div_eq hb a] at h3
      · rw [e]
        have h2 : pmod a b = a ^^^ cl (pquo a b) b := by
          have := div_eq hb a
          rw [Nat.xor_comm] at this
          exact xor_eq_iff.1 this.symm
        rw [cl_xor_left, cl_assoc]
        have : cl v (pmod a b) = cl v a ^^^ cl v (cl (pquo a b) b) := by rw [← cl_xor_right, ← h2]
        rw [this]
        ac_rfl
theorem pgcd_dv_left (a b : Nat) : Dv (pgcd a b) a := (pgcd_spec _ a b (Nat.le_refl _)).1.1
theorem pgcd_dv_right (a b : Nat) : Dv (pgcd a b) b := (pgcd_spec _ a b (Nat.le_refl _)).1.2
theorem pgcd_bezout (a b : Nat) : ∃ u v, pgcd a b = cl u a ^^^ cl v b := (pgcd_spec _ a b (Nat.le_refl _)).2
theorem dv_pgcd {d a b : Nat} (h : Dv d a) (k : Dv d b) : Dv d (pgcd a b) := by
  obtain ⟨u, v, e⟩ := pgcd_bezout a b
  rw [e]
  exact (h.mul_left u).xor (k.mul_left v)
theorem pgcd_unique {g a b : Nat} (h1 : Dv g a) (h2 : Dv g b) (h3 : ∀ d, Dv d a → Dv d b → Dv d g) : g = pgcd a b :=
  (dv_pgcd h1 h2).antisymm (h3 _ (pgcd_dv_left a b) (pgcd_dv_right a b))
theorem pgcd_comm (a b : Nat) : pgcd a b = pgcd b a :=
  pgcd_unique (pgcd_dv_right a b) (pgcd_dv_left a b) fun _ h k => dv_pgcd k h
theorem pgcd_cl (c a b : Nat) : pgcd (cl c a) (cl c b) = cl c (pgcd a b) := by
  by_cases hc : c = 0
  · subst hc; rw [zero_cl, zero_cl, zero_cl, pgcd_zero]
  · symm
    obtain ⟨u, v, e⟩ := pgcd_bezout a b
    refine pgcd_unique ?_ ?_ ?_
    · obtain ⟨q, hq⟩ := pgcd_dv_left a b
      exact ⟨q, by rw [cl_left_comm, ← hq]⟩
    · obtain ⟨q, hq⟩ := pgcd_dv_right a b
      exact ⟨q, by rw [cl_left_comm, ← hq]⟩
    · intro d h k
      rw [e, cl_xor_right, cl_left_comm, cl_left_comm c v]
      exact (h.mul_left u).xor (k.mul_left v)
theorem pgcd_pmod {p : Nat} (hp : p ≠ 0) (a : Nat) : pgcd (pmod a p) p = pgcd a p := by
  refine (pgcd_unique ?_ (pgcd_dv_right a p) ?_).symm
  · have := (pgcd_dv_right a p).trans (dv_xor_pmod hp a)
    rw [Nat.xor_comm] at this
    exact this.of_xor (pgcd_dv_left a p)
  · intro d h k
    have := k.trans (dv_xor_pmod hp a)
    exact dv_pgcd (this.of_xor h) k

/-- A polynomial of a degree from 1 on that is no product of two such. -/
def Irr (p : Nat) : Prop := 2 ≤ p ∧ ∀ d e, p = cl d e → d = 1 ∨ e = 1
theorem Irr.gcd {p : Nat} (h : Irr p) (a : Nat) : Dv p a ∨ pgcd a p = 1 := by
  obtain ⟨q, hq⟩ := pgcd_dv_right a p
  rcases h.2 _ _ hq with e | e
  · subst e
    rw [one_cl] at hq
    left
    have := pgcd_dv_left a p
    rwa [← hq] at this
  · exact .inr e
theorem Irr.prime {p : Nat} (h : Irr p) {a b : Nat} (k : Dv p (cl a b)) : Dv p a ∨ Dv p b := by
  rcases h.gcd a with d | e
  · exact .inl d
  · right
    obtain ⟨u, v, e2⟩ := pgcd_bezout a p
    rw [e] at e2
    have h1 : b = cl (cl u a) b ^^^ cl (cl v p) b := by rw [← cl_xor_left, ← e2, one_cl]
    have h2 : Dv p (cl (cl u a) b) := by rw [cl_assoc]; exact k.mul_left u
    have h3 : Dv p (cl (cl v p) b) := ((Dv.refl p).mul_left v).mul_right b
    have h4 := h2.xor h3
    rwa [← h1] at h4
theorem irr_factor : ∀ (n a : Nat), bl a ≤ n → 2 ≤ a → ∃ q, Irr q ∧ Dv q a := by
  intro n
  induction n with
  | zero =>
    intro a h h2
    have := bl_eq_zero.1 (show bl a = 0 by omega)
    omega
  | succ n ih =>
    intro a h h2
    by_cases hi : Irr a
    · exact ⟨a, hi, Dv.refl a⟩
    · have hne : ¬ ∀ d e, a = cl d e → d = 1 ∨ e = 1 := fun k => hi ⟨h2, k⟩
      obtain ⟨d, hd⟩ := Classical.not_forall.1 hne
      obtain ⟨e, he⟩ := Classical.not_forall.1 hd
      have hae : a = cl d e := Classical.not_imp.1 he |>.1
      have hde := not_or.1 (Classical.not_imp.1 he).2
      have hd0 : d ≠ 0 := by rintro rfl; rw [zero_cl] at hae; omega
      have he0 : e ≠ 0 := by rintro rfl; rw [cl_zero] at hae; omega
      have hb := bl_cl hd0 he0
      rw [← hae] at hb
      have hel : 2 ≤ bl e := by
        have : 1 < bl e := lt_bl.2 (by omega)
        omega
      obtain ⟨q, hq, hq2⟩ := ih d (by omega) (by omega)
      exact ⟨q, hq, by rw [hae]; exact hq2.mul_right e⟩

/-- Powers. -/
def pp (a : Nat) : Nat → Nat
  | 0 => 1
  | n + 1 => cl (pp a n) a
theorem pp_succ (a n : Nat) : pp a (n + 1) = cl (pp a n) a := rfl
theorem pp_add (a m n : Nat) : pp a (m + n) = cl (pp a m) (pp a n) := by
  induction n with
  | zero => rw [Nat.add_zero, pp, cl_one]
  | succ n ih => rw [← Nat.add_assoc, pp, pp, ih, cl_assoc]
theorem pp_mul (a m n : Nat) : pp a (m * n) = pp (pp a m) n := by
  induction n with
  | zero => rfl
  | succ n ih => rw [Nat.mul_succ, pp_add, ih, pp]
theorem pp_one (a : Nat) : pp a 1 = a := by rw [pp, pp, one_cl]
theorem pp_two (a : Nat) : pp a 2 = cl a a := by rw [pp, pp_one]
theorem sq_xor (a b : Nat) : cl (a ^^^ b) (a ^^^ b) = cl a a ^^^ cl b b := by
  rw [cl_xor_left, cl_xor_right, cl_xor_right, cl_comm b a, Nat.xor_assoc, xor_cancel_left]
theorem pp_pmod {p : Nat} (hp : p ≠ 0) (a n : Nat) : pmod (pp (pmod a p) n) p = pmod (pp a n) p := by
  induction n with
  | zero => rfl
  | succ n ih => rw [pp, pp, ← pmod_cl_left hp, ih, pmod_cl_left hp, pmod_cl_right hp]
theorem pp_frob (a b : Nat) (i : Nat) : pp (a ^^^ b) (2 ^ i) = pp a (2 ^ i) ^^^ pp b (2 ^ i) := by
  induction i with
  | zero => rw [Nat.pow_zero, pp_one, pp_one, pp_one]
  | succ i ih => rw [Nat.pow_succ, pp_mul, pp_mul, pp_mul, ih, pp_two, pp_two, pp_two, sq_xor]

/-- A list's product. -/
def prodl : List Nat → Nat
  | [] => 1
  | x :: l => cl x (prodl l)
theorem prodl_perm {l m : List Nat} (h : l.Perm m) : prodl l = prodl m := by
  induction h with
  | nil => rfl
  | cons x _ ih => rw [prodl, prodl, ih]
  | swap x y l => rw [prodl, prodl, prodl, prodl, cl_left_comm]
  | trans _ _ h1 h2 => rw [h1, h2]
theorem prodl_map_cl (a : Nat) (l : List Nat) : prodl (l.map (cl a)) = cl (pp a l.length) (prodl l) := by
  induction l with
  | nil => rw [List.map_nil, List.length_nil, prodl, pp, one_cl]
  | cons x l ih => rw [List.map_cons, prodl, prodl, ih, List.length_cons, pp]; ac_rfl
theorem prodl_map_pmod {p : Nat} (hp : p ≠ 0) (f : Nat → Nat) (l : List Nat) :
    pmod (prodl (l.map fun x => pmod (f x) p)) p = pmod (prodl (l.map f)) p := by
  induction l with
  | nil => rfl
  | cons x l ih =>
    rw [List.map_cons, List.map_cons, prodl, prodl, pmod_cl_left hp, ← pmod_cl_right hp, ih, pmod_cl_right hp]
theorem perm_of_subset : ∀ {l m : List Nat}, l.Nodup → (∀ x ∈ l, x ∈ m) → m.length ≤ l.length → l.Perm m := by
  intro l
  induction l with
  | nil =>
    intro m _ _ h
    have : m = [] := List.length_eq_zero_iff.1 (by simpa using h)
    subst this
    exact List.Perm.refl _
  | cons x l ih =>
    intro m hn hs hl
    have hx : x ∈ m := hs x (by simp)
    have hp := List.perm_cons_erase hx
    rw [List.nodup_cons] at hn
    refine List.Perm.trans (List.Perm.cons x (ih hn.2 ?_ ?_)) hp.symm
    · intro y hy
      have hne : y ≠ x := by rintro rfl; exact hn.1 hy
      exact (List.mem_erase_of_ne hne).2 (hs y (by simp [hy]))
    · have := hp.length_eq
      rw [List.length_cons] at this hl
      omega
theorem nodup_map {f : Nat → Nat} : ∀ {l : List Nat}, l.Nodup → (∀ x ∈ l, ∀ y ∈ l, f x = f y → x = y) → (l.map f).Nodup := by
  intro l
  induction l with
  | nil => intro _ _; exact List.nodup_nil
  | cons x l ih =>
    intro hn hi
    rw [List.nodup_cons] at hn
    rw [List.map_cons, List.nodup_cons]
    refine ⟨?_, ih hn.2 fun y hy z hz => hi y (by simp [hy]) z (by simp [hz])⟩
    intro hm
    obtain ⟨y, hy, e⟩ := List.mem_map.1 hm
    have := hi y (by simp [hy]) x (by simp) e
    subst this
    exact hn.1 hy
theorem prodl_ndv {p : Nat} (h : Irr p) : ∀ l : List Nat, (∀ x ∈ l, ¬ Dv p x) → ¬ Dv p (prodl l) := by
  intro l
  induction l with
  | nil =>
    intro _ hd
    rw [prodl] at hd
    have h1 := hd.bl_le (by decide)
    have h2 : 1 < bl p := lt_bl.2 h.1
    rw [bl_one] at h1
    omega
  | cons x l ih =>
    intro hx hd
    rw [prodl] at hd
    rcases h.prime hd with e | e
    · exact hx x (by simp) e
    · exact ih (fun y hy => hx y (by simp [hy])) e
theorem Irr.ne {p : Nat} (h : Irr p) : p ≠ 0 := by have := h.1; omega
theorem Irr.cancel {p : Nat} (h : Irr p) {a b c : Nat} (hc : ¬ Dv p c) (e : pmod (cl a c) p = pmod (cl b c) p) : pmod a p = pmod b p := by
  rw [pmod_eq_iff h.ne, ← cl_xor_left] at e
  rcases h.prime e with k | k
  · exact (pmod_eq_iff h.ne).2 k
  · exact absurd k hc
/-- Fermat: modulo an irreducible p of degree d, a to the 2^d - 1 is 1 where p doesn't divide a. -/
theorem fermat {p d : Nat} (h : Irr p) (hd : bl p = d + 1) {a : Nat} (ha : ¬ Dv p a) : pmod (pp a (2 ^ d - 1)) p = 1 := by
  have hp := h.ne
  have hd1 : 1 ≤ d := by have : 1 < bl p := lt_bl.2 h.1; omega
  have hpow : 0 < 2 ^ d := Nat.two_pow_pos d
  let L := (List.range (2 ^ d - 1)).map (· + 1)
  have hL : ∀ x, x ∈ L ↔ 1 ≤ x ∧ x < 2 ^ d := by
    intro x
    simp only [L, List.mem_map, List.mem_range]
    constructor
    · rintro ⟨y, hy, rfl⟩; omega
    · intro hx; exact ⟨x - 1, by omega, by omega⟩
  have hlen : L.length = 2 ^ d - 1 := by simp [L]
  have hnd : ∀ x ∈ L, ¬ Dv p x := by
    intro x hx k
    have hx := (hL x).1 hx
    have h1 := k.bl_le (by omega)
    have h2 := bl_le.2 hx.2
    omega
  have hN : L.Nodup := nodup_map List.nodup_range (by intro x _ y _ e; simpa using e)
  have hperm : (L.map fun x => pmod (cl a x) p).Perm L := by
    refine perm_of_subset (nodup_map hN ?_) ?_ (by simp)
    · intro x hx y hy e
      have e2 : pmod x p = pmod y p := h.cancel ha (by rw [cl_comm x, cl_comm y]; exact e)
      have hx := (hL x).1 hx
      have hy := (hL y).1 hy
      rw [pmod_small (by rw [hd]; have := bl_le.2 hx.2; omega), pmod_small (by rw [hd]; have := bl_le.2 hy.2; omega)] at e2
      exact e2
    · intro y hy
      obtain ⟨x, hx, rfl⟩ := List.mem_map.1 hy
      refine (hL _).2 ⟨?_, ?_⟩
      · have : pmod (cl a x) p ≠ 0 := by
          intro e
          rcases h.prime ((pmod_eq_zero hp).1 e) with k | k
          · exact ha k
          · exact hnd x hx k
        omega
      · exact bl_le.1 (by have := pmod_lt hp (cl a x); omega)
  have e1 := prodl_perm hperm
  have e2 := prodl_map_pmod hp (cl a) L
  rw [e1, prodl_map_cl, hlen] at e2
  have e3 : pmod (cl 1 (prodl L)) p = pmod (cl (pp a (2 ^ d - 1)) (prodl L)) p := by rw [one_cl]; exact e2
  have e4 := h.cancel (prodl_ndv h L hnd) e3
  rw [← e4]
  exact pmod_small (by rw [bl_one, hd]; omega)
theorem fermat' {p d : Nat} (h : Irr p) (hd : bl p = d + 1) (a : Nat) : pmod (pp a (2 ^ d)) p = pmod a p := by
  have hpow : 0 < 2 ^ d := Nat.two_pow_pos d
  by_cases ha : Dv p a
  · have h1 := (pmod_eq_zero h.ne).2 ha
    rw [h1]
    apply (pmod_eq_zero h.ne).2
    rw [show 2 ^ d = (2 ^ d - 1) + 1 from by omega, pp]
    exact ha.mul_left _
  · rw [show 2 ^ d = (2 ^ d - 1) + 1 from by omega, pp, ← pmod_cl_left h.ne, fermat h hd ha, one_cl]
end GP
end
section
/- The field of 2^d elements as residues of polynomials over GF(2), for any irreducible modulus; what can be run by the kernel; the two moduli 285 and 65581. Plain Lean. -/
set_option linter.unusedVariables false
set_option linter.unusedSectionVars false
namespace GP

/-! ### what the kernel runs -/
def clf : Nat → Nat → Nat → Nat
  | 0, _, _ => 0
  | n + 1, a, b => (if b % 2 = 1 then a else 0) ^^^ (2 * clf n a (b / 2))
def pmf : Nat → Nat → Nat → Nat
  | 0, a, _ => a
  | n + 1, a, b => if Nat.log2 a < Nat.log2 b then a else pmf n (a ^^^ b <<< (Nat.log2 a - Nat.log2 b)) b
theorem pmod_zero_left (b : Nat) : pmod 0 b = 0 := by
  by_cases hb : b = 0
  · subst hb; unfold pmod; rw [pdm_zero]
  · exact pmod_small (by rw [bl_zero]; exact bl_pos.2 hb)
def mulf (p a b : Nat) : Nat := pmf 32 (clf 16 a b) p
def powf (p : Nat) : Nat → Nat → Nat → Nat
  | 0, _, _ => 1
  | n + 1, a, e => if e % 2 = 1 then mulf p (powf p n (mulf p a a) (e / 2)) a else powf p n (mulf p a a) (e / 2)

theorem cl_lt2 {a b m n : Nat} (ha : a < 2 ^ m) (hb : b < 2 ^ n) : cl a b < 2 ^ (m + n) := by
  by_cases h0 : a = 0
  · subst h0; rw [zero_cl]; exact Nat.two_pow_pos _
  · by_cases h1 : b = 0
    · subst h1; rw [cl_zero]; exact Nat.two_pow_pos _
    · have := bl_cl h0 h1
      have := bl_le.2 ha
      have := bl_le.2 hb
      exact bl_le.1 (by omega)
/-! ### the field -/
def fm (p a b : Nat) : Nat := pmod (cl a b) p
def fpow (p a n : Nat) : Nat := pmod (pp a n) p
theorem fm_comm (p a b : Nat) : fm p a b = fm p b a := by unfold fm; rw [cl_comm]
theorem fm_xor_right {p : Nat} (hp : p ≠ 0) (a b c : Nat) : fm p a (b ^^^ c) = fm p a b ^^^ fm p a c := by unfold fm; rw [cl_xor_right, pmod_xor hp]
theorem fm_assoc {p : Nat} (hp : p ≠ 0) (a b c : Nat) : fm p (fm p a b) c = fm p a (fm p b c) := by
  unfold fm; rw [pmod_cl_left hp, pmod_cl_right hp, cl_assoc]
theorem fpow_succ {p : Nat} (hp : p ≠ 0) (a n : Nat) : fpow p a (n + 1) = fm p (fpow p a n) a := by unfold fpow fm; rw [pp_succ, pmod_cl_left hp]
section
variable {p d : Nat} (h : Irr p) (hd : bl p = d + 1)
include hd in
theorem pmod_lt_pow (a : Nat) : pmod a p < 2 ^ d := bl_le.1 (by have := pmod_lt (b := p) (bl_pos.1 (by omega)) a; omega)
include hd in
theorem pmod_id {a : Nat} (ha : a < 2 ^ d) : pmod a p = a := pmod_small (by have := bl_le.2 ha; omega)
include hd in
theorem fm_lt (a b : Nat) : fm p a b < 2 ^ d := pmod_lt_pow hd _
include hd in
theorem fpow_lt (a n : Nat) : fpow p a n < 2 ^ d := pmod_lt_pow hd _
include hd in
theorem one_lt (h : Irr p) : 1 < 2 ^ d := by
  have : 1 < bl p := lt_bl.2 h.1
  have := Nat.pow_le_pow_right (n := 2) (by decide) (show 1 ≤ d by omega)
  omega
include h hd
theorem fm_one {a : Nat} (ha : a < 2 ^ d) : fm p a 1 = a := by unfold fm; rw [cl_one, pmod_id hd ha]
theorem dv_iff {a : Nat} (ha : a < 2 ^ d) : Dv p a ↔ a = 0 := by
  rw [← pmod_eq_zero h.ne, pmod_id hd ha]
theorem fpow_full {a : Nat} (ha : a < 2 ^ d) (h0 : a ≠ 0) : fpow p a (2 ^ d - 1) = 1 := fermat h hd (fun k => h0 ((dv_iff h hd ha).1 k))
/-- The inverse. -/
theorem fm_inv {a : Nat} (ha : a < 2 ^ d) (h0 : a ≠ 0) : fm p (fpow p a (2 ^ d - 2)) a = 1 := by
  have h2 := one_lt hd h
  rw [← fpow_succ h.ne, show 2 ^ d - 2 + 1 = 2 ^ d - 1 by omega, fpow_full h hd ha h0]
end
def trial (p : Nat) : Nat → Bool
  | 0 => true
  | n + 1 => pmf 20 p (n + 2) != 0 && trial p n
end GP
end
section
/- The coefficients of a number, of a product, of remainders on the way. Plain Lean. -/
set_option linter.unusedVariables false
set_option linter.unusedSimpArgs false
namespace GP
/-- The coefficient i of a. -/
def cf (a i : Nat) : Nat := if a.testBit i then 1 else 0
theorem cf_le (a i : Nat) : cf a i ≤ 1 := by unfold cf; split <;> omega
theorem cf_mod (a i : Nat) : a / 2 ^ i % 2 = cf a i := by
  unfold cf
  rw [Nat.testBit_eq_decide_div_mod_eq]
  rcases Nat.mod_two_eq_zero_or_one (a / 2 ^ i) with h | h <;> simp [h]
theorem cf_xor (a b i : Nat) : cf (a ^^^ b) i = (cf a i + cf b i) % 2 := by
  unfold cf
  rw [Nat.testBit_xor]
  cases a.testBit i <;> cases b.testBit i <;> rfl
/-- The sum over i < t of a's coefficient i times b's coefficient n - i, modulo 2. -/
def cv (a b n : Nat) : Nat → Nat
  | 0 => 0
  | t + 1 => (cv a b n t + cf a t * cf b (n - t)) % 2
theorem cv_le (a b n : Nat) : ∀ t, cv a b n t ≤ 1 := by
  intro t
  cases t with
  | zero => exact Nat.zero_le _
  | succ t => show (_ % 2) ≤ 1; omega
theorem cf_half (a i : Nat) : cf (a / 2) i = cf a (i + 1) := by unfold cf; rw [Nat.testBit_succ]
theorem cf_two (a i : Nat) : cf (2 * a) (i + 1) = cf a i := by unfold cf; rw [Nat.testBit_succ, Nat.mul_div_cancel_left _ (by decide)]
theorem cf_two0 (a : Nat) : cf (2 * a) 0 = 0 := by unfold cf; simp
/-- From the first summand on. -/
theorem cv_first (a b n : Nat) : ∀ t, cv a b (n + 1) (t + 1) = (cf a 0 * cf b (n + 1) + cv (a / 2) b n t) % 2 := by
  intro t
  induction t with
  | zero => show (0 + cf a 0 * cf b (n + 1 - 0)) % 2 = (_ + 0) % 2; rw [Nat.zero_add, Nat.add_zero]; rfl
  | succ t ih =>
    show (cv a b (n + 1) (t + 1) + cf a (t + 1) * cf b (n + 1 - (t + 1))) % 2 = (_ + (cv (a / 2) b n t + cf (a / 2) t * cf b (n - t)) % 2) % 2
    rw [ih, cf_half, show n + 1 - (t + 1) = n - t by omega]
    omega
theorem cl_cf : ∀ (n a b : Nat), cf (cl a b) n = cv a b n (n + 1) := by
  intro n
  induction n with
  | zero =>
    intro a b
    rw [cl_comm, cl_step, cf_xor, cf_two0]
    show _ = (0 + cf a 0 * cf b (0 - 0)) % 2
    rw [Nat.zero_add, Nat.sub_self, Nat.add_zero]
    have h := cf_mod a 0
    rw [Nat.pow_zero, Nat.div_one] at h
    by_cases ha : a % 2 = 1
    · rw [if_pos ha, ← h, ha, Nat.one_mul]
    · have h0 : a % 2 = 0 := by omega
      rw [if_neg ha, ← h, h0, Nat.zero_mul]; rfl
  | succ n ih =>
    intro a b
    rw [cl_comm, cl_step, cf_xor, cf_two, cl_comm, ih, cv_first]
    have h := cf_mod a 0
    rw [Nat.pow_zero, Nat.div_one] at h
    have hb := cf_le b (n + 1)
    by_cases ha : a % 2 = 1
    · rw [if_pos ha, ← h, ha, Nat.one_mul]
    · have h0 : a % 2 = 0 := by omega
      have hz : cf 0 (n + 1) = 0 := by unfold cf; simp
      rw [if_neg ha, ← h, h0, Nat.zero_mul, hz]
/-- A number out of its coefficients, from the highest down. -/
theorem up_step (a i : Nat) : 2 * (a / 2 ^ (i + 1)) + cf a i = a / 2 ^ i := by
  rw [← cf_mod, Nat.pow_succ, ← Nat.div_div_eq_div_mul]
  omega
/-- What the document's division does on the coefficients. -/
def dm (a b d : Nat) : Nat → Nat × Nat
  | 0 => (0, a)
  | t + 1 => if (dm a b d t).2.testBit (63 - t) then ((dm a b d t).1 ^^^ 2 ^ (63 - d - t), (dm a b d t).2 ^^^ b * 2 ^ (63 - d - t)) else dm a b d t
theorem dm_keeps {a b d : Nat} (hd : bl b = d + 1) (ha : a < 2 ^ 64) (hd64 : d ≤ 63) : ∀ t, t ≤ 64 - d → a = cl (dm a b d t).1 b ^^^ (dm a b d t).2 ∧ bl (dm a b d t).2 ≤ 64 - t ∧ ∀ i, i < 64 - d - t → (dm a b d t).1.testBit i = false := by
  have hb : b ≠ 0 := bl_pos.1 (by omega)
  intro t
  induction t with
  | zero =>
    intro _
    refine ⟨?_, ?_, fun i _ => Nat.zero_testBit i⟩
    · show a = cl 0 b ^^^ a; rw [zero_cl, Nat.zero_xor]
    · show bl a ≤ 64; exact bl_le.2 ha
  | succ t ih =>
    intro ht
    obtain ⟨h1, h2, h3⟩ := ih (by omega)
    have st : dm a b d (t + 1) = if (dm a b d t).2.testBit (63 - t) then ((dm a b d t).1 ^^^ 2 ^ (63 - d - t), (dm a b d t).2 ^^^ b * 2 ^ (63 - d - t)) else dm a b d t := rfl
    rw [st]
    by_cases hbit : (dm a b d t).2.testBit (63 - t) = true
    · rw [if_pos hbit]
      have e1 : bl (dm a b d t).2 = 63 - t + 1 := by have := bl_of_bit hbit; omega
      have e2 : bl (b * 2 ^ (63 - d - t)) = 63 - t + 1 := by rw [bl_shift hb, hd]; omega
      refine ⟨?_, ?_, fun i hi => ?_⟩
      · rw [cl_xor_left, pow_cl]
        rw [Nat.xor_assoc, Nat.xor_comm (b * _), Nat.xor_assoc, Nat.xor_self, Nat.xor_zero]
        exact h1
      · have hne : (dm a b d t).2 ≠ 0 := by intro e; rw [e] at hbit; simp at hbit
        have := bl_xor_lt (e1.trans e2.symm) hne
        show bl ((dm a b d t).2 ^^^ b * 2 ^ (63 - d - t)) ≤ _
        omega
      · show ((dm a b d t).1 ^^^ 2 ^ (63 - d - t)).testBit i = false
        rw [Nat.testBit_xor, h3 i (by omega), Nat.testBit_two_pow_of_ne (by omega)]; rfl
    · rw [if_neg hbit]
      refine ⟨h1, ?_, fun i hi => h3 i (by omega)⟩
      rcases Nat.lt_or_ge (bl (dm a b d t).2) (64 - t) with c | c
      · omega
      · exfalso
        exact hbit (top_bit (n := 63 - t) (by omega))
theorem dm_end {a b d : Nat} (hd : bl b = d + 1) (ha : a < 2 ^ 64) (hd64 : d ≤ 63) : dm a b d (64 - d) = (pquo a b, pmod a b) := by
  obtain ⟨h1, h2, -⟩ := dm_keeps hd ha hd64 (64 - d) (Nat.le_refl _)
  obtain ⟨e1, e2⟩ := div_unique (bl_pos.1 (by omega)) h1 (by omega)
  exact Prod.ext e1 e2
end GP
end
section
/- Elimination over GF(2)[x] modulo p, as the document's combine does it; the binary greatest common divisor. Plain Lean. -/
set_option linter.unusedVariables false
set_option linter.unusedSimpArgs false
namespace GP
/-- One step: where v has s's highest bit, s is added, and f to u. -/
def cst (e : Nat × Nat) (x : Nat × Nat) : Nat × Nat := if x.1.testBit (bl e.1 - 1) then (x.1 ^^^ e.1, x.2 ^^^ e.2) else x
/-- All steps, the first one first. -/
def crd : List (Nat × Nat) → Nat × Nat → Nat × Nat
  | [], x => x
  | e :: l, x => crd l (cst e x)
theorem crd_append : ∀ (l m : List (Nat × Nat)) (x : Nat × Nat), crd (l ++ m) x = crd m (crd l x) := by
  intro l
  induction l with
  | nil => intro m x; rfl
  | cons e l ih => intro m x; exact ih m (cst e x)
theorem crd_snoc (l : List (Nat × Nat)) (e x : Nat × Nat) : crd (l ++ [e]) x = cst e (crd l x) := by rw [crd_append]; rfl
theorem cst_fst (e x y : Nat × Nat) : (cst e (x.1 ^^^ y.1, x.2 ^^^ y.2)).1 = (cst e x).1 ^^^ (cst e y).1 := by
  unfold cst
  simp only [Nat.testBit_xor]
  have ac1 : x.1 ^^^ y.1 ^^^ e.1 = x.1 ^^^ (y.1 ^^^ e.1) := Nat.xor_assoc _ _ _
  have ac2 : x.1 ^^^ y.1 ^^^ e.1 = x.1 ^^^ e.1 ^^^ y.1 := by rw [Nat.xor_assoc, Nat.xor_comm y.1 e.1, ← Nat.xor_assoc]
  have ac3 : x.1 ^^^ y.1 = x.1 ^^^ e.1 ^^^ (y.1 ^^^ e.1) := by rw [Nat.xor_comm y.1 e.1, ← Nat.xor_assoc, Nat.xor_assoc x.1, Nat.xor_self, Nat.xor_zero]
  cases hx : x.1.testBit (bl e.1 - 1) <;> cases hy : y.1.testBit (bl e.1 - 1) <;> simp only [Bool.xor_false, Bool.xor_true, Bool.false_eq_true, Bool.not_true, Bool.not_false, if_true, if_false] <;> assumption
theorem cst_fst' (e : Nat × Nat) (v u w : Nat) : (cst e (v, u)).1 = (cst e (v, w)).1 := by unfold cst; dsimp only; split <;> rfl
theorem crd_fst' : ∀ (l : List (Nat × Nat)) (v u w : Nat), (crd l (v, u)).1 = (crd l (v, w)).1 := by
  intro l
  induction l with
  | nil => intro v u w; rfl
  | cons e l ih =>
    intro v u w
    have h := cst_fst' e v u w
    show (crd l (cst e (v, u))).1 = (crd l (cst e (v, w))).1
    have e1 : cst e (v, u) = ((cst e (v, u)).1, (cst e (v, u)).2) := rfl
    have e2 : cst e (v, w) = ((cst e (v, w)).1, (cst e (v, w)).2) := rfl
    rw [e1, e2, h]
    exact ih _ _ _
/-- What is left of v. -/
def clv (l : List (Nat × Nat)) (v : Nat) : Nat := (crd l (v, 0)).1
theorem clv_is (l : List (Nat × Nat)) (v u : Nat) : (crd l (v, u)).1 = clv l v := crd_fst' l v u 0
theorem clv_xor : ∀ (l : List (Nat × Nat)) (v w : Nat), clv l (v ^^^ w) = clv l v ^^^ clv l w := by
  intro l
  induction l with
  | nil => intro v w; rfl
  | cons e l ih =>
    intro v w
    have h := cst_fst e (v, 0) (w, 0)
    have key : ∀ z, clv (e :: l) z = clv l (cst e (z, 0)).1 := fun z => by
      show (crd l (cst e (z, 0))).1 = _
      have e1 : cst e (z, 0) = ((cst e (z, 0)).1, (cst e (z, 0)).2) := rfl
      rw [e1]; exact clv_is _ _ _
    have h' : (cst e (v ^^^ w, 0)).1 = (cst e (v, 0)).1 ^^^ (cst e (w, 0)).1 := by
      rw [← h]; exact cst_fst' _ _ _ _
    rw [key, key, key, ← ih, h']
theorem clv_zero (l : List (Nat × Nat)) : clv l 0 = 0 := by
  have := clv_xor l 0 0
  rw [Nat.xor_zero] at this
  have h2 : clv l 0 ^^^ clv l 0 = 0 := Nat.xor_self _
  rw [← this] at h2; exact h2
theorem clv_snoc (l : List (Nat × Nat)) (e : Nat × Nat) (v : Nat) : clv (l ++ [e]) v = (cst e (clv l v, 0)).1 := by
  unfold clv
  rw [crd_snoc]
  have e1 : crd l (v, 0) = ((crd l (v, 0)).1, (crd l (v, 0)).2) := rfl
  rw [e1]; exact cst_fst' _ _ _ _
theorem cst_self {v f : Nat} (h : v ≠ 0) : (cst (v, f) (v, 0)).1 = 0 := by
  unfold cst
  have hb : v.testBit (bl v - 1) = true := top_bit (by have := bl_pos.2 h; omega)
  dsimp only
  rw [if_pos hb, Nat.xor_self]
theorem cst_none (e : Nat × Nat) : (cst e (0, 0)).1 = 0 := by
  unfold cst
  dsimp only
  rw [if_neg (by simp)]
/-- The list keeps: each pair is a factor below 2^n and its product with a modulo p, which is not 0. -/
structure Cmb (a p n : Nat) (l : List (Nat × Nat)) : Prop where
  all : ∀ e ∈ l, e.1 = pmod (cl e.2 a) p ∧ e.2 < 2 ^ n ∧ e.1 ≠ 0
  span : ∀ i, i < n → clv l (pmod (cl (2 ^ i) a) p) = 0
theorem crd_keeps {a p n : Nat} (hp : p ≠ 0) : ∀ (l : List (Nat × Nat)), (∀ e ∈ l, e.1 = pmod (cl e.2 a) p ∧ e.2 < 2 ^ n ∧ e.1 ≠ 0) → ∀ (x : Nat × Nat), x.2 < 2 ^ n →
    (crd l x).2 < 2 ^ n ∧ (crd l x).1 ^^^ pmod (cl (crd l x).2 a) p = x.1 ^^^ pmod (cl x.2 a) p := by
  intro l
  induction l with
  | nil => intro _ x hx; exact ⟨hx, rfl⟩
  | cons e l ih =>
    intro hl x hx
    obtain ⟨h1, h2, -⟩ := hl e (List.mem_cons_self)
    have hstep : (cst e x).2 < 2 ^ n ∧ (cst e x).1 ^^^ pmod (cl (cst e x).2 a) p = x.1 ^^^ pmod (cl x.2 a) p := by
      unfold cst
      split
      · refine ⟨Nat.xor_lt_two_pow hx h2, ?_⟩
        dsimp only
        rw [cl_xor_left, pmod_xor hp, h1]
        rw [Nat.xor_assoc, Nat.xor_comm (pmod (cl x.2 a) p), ← Nat.xor_assoc (pmod (cl e.2 a) p), Nat.xor_self, Nat.zero_xor]
      · exact ⟨hx, rfl⟩
    obtain ⟨i1, i2⟩ := ih (fun e he => hl e (List.mem_cons_of_mem _ he)) (cst e x) hstep.1
    exact ⟨i1, i2.trans hstep.2⟩
theorem Cmb.start (a p : Nat) : Cmb a p 0 [] := ⟨fun e he => (by cases he), fun i hi => by omega⟩
/-- One vector more. -/
theorem Cmb.next {a p n : Nat} (hp : p ≠ 0) {l : List (Nat × Nat)} (h : Cmb a p n l) {v u : Nat} (hx : crd l (pmod (cl (2 ^ n) a) p, 2 ^ n) = (v, u)) :
    Cmb a p (n + 1) (if v = 0 then l else l ++ [(v, u)]) := by
  have up : ∀ e ∈ l, e.1 = pmod (cl e.2 a) p ∧ e.2 < 2 ^ (n + 1) ∧ e.1 ≠ 0 := fun e he => by
    obtain ⟨a1, a2, a3⟩ := h.all e he
    exact ⟨a1, Nat.lt_trans a2 (Nat.pow_lt_pow_right (by decide) (by omega)), a3⟩
  obtain ⟨k1, k2⟩ := crd_keeps (n := n + 1) hp l up (pmod (cl (2 ^ n) a) p, 2 ^ n) (Nat.pow_lt_pow_right (by decide) (by omega))
  rw [hx] at k1 k2
  dsimp only at k1 k2
  rw [Nat.xor_self] at k2
  have hv : v = pmod (cl u a) p := xor_eq_zero.1 k2
  have hc : clv l (pmod (cl (2 ^ n) a) p) = v := by rw [← clv_is l _ (2 ^ n), hx]
  by_cases h0 : v = 0
  · rw [if_pos h0]
    refine ⟨up, fun i hi => ?_⟩
    by_cases e : i = n
    · rw [e, hc, h0]
    · exact h.span i (by omega)
  · rw [if_neg h0]
    refine ⟨fun e he => ?_, fun i hi => ?_⟩
    · rcases List.mem_append.1 he with he | he
      · exact up e he
      · rw [List.mem_singleton.1 he]; exact ⟨hv, k1, h0⟩
    · rw [clv_snoc]
      by_cases e : i = n
      · rw [e, hc]; exact cst_self h0
      · rw [h.span i (by omega)]; exact cst_none _
theorem Cmb.spans {a p n : Nat} (hp : p ≠ 0) {l : List (Nat × Nat)} (h : Cmb a p n l) : ∀ m, m ≤ n → ∀ u, u < 2 ^ m → clv l (pmod (cl u a) p) = 0 := by
  intro m
  induction m with
  | zero => intro _ u hu; have : u = 0 := by omega
            subst this; rw [zero_cl, pmod_zero_left, clv_zero]
  | succ m ih =>
    intro hm u hu
    by_cases hb : u.testBit m = true
    · have e : u = 2 ^ m ^^^ (u ^^^ 2 ^ m) := by rw [Nat.xor_comm u, ← Nat.xor_assoc, Nat.xor_self, Nat.zero_xor]
      have hlt : u ^^^ 2 ^ m < 2 ^ m := by
        have h1 : bl u = m + 1 := bl_eq (Nat.ge_two_pow_of_testBit hb) hu
        have h2 : bl (2 ^ m) = m + 1 := bl_eq (Nat.le_refl _) (Nat.pow_lt_pow_right (by decide) (by omega))
        have := bl_xor_lt (h1.trans h2.symm) (by intro e; rw [e, bl_zero] at h1; omega)
        exact bl_le.1 (by omega)
      rw [e, cl_xor_left, pmod_xor hp, clv_xor, h.span m (by omega), ih (by omega) _ hlt, Nat.xor_zero]
    · have hlt : u < 2 ^ m := by
        apply Classical.byContradiction
        intro hc
        have h1 : bl u = m + 1 := bl_eq (by omega) hu
        exact hb (top_bit h1)
      exact ih (by omega) u hlt
/-- What elimination answers: a factor, and whether it is one. -/
theorem Cmb.sound {a p n : Nat} (hp : p ≠ 0) {l : List (Nat × Nat)} (h : Cmb a p n l) {t v u : Nat} (hx : crd l (t, 0) = (v, u)) : u < 2 ^ n ∧ (v = 0 → pmod (cl u a) p = t) ∧ (v ≠ 0 → ∀ w, w < 2 ^ n → pmod (cl w a) p ≠ t) := by
  obtain ⟨k1, k2⟩ := crd_keeps (n := n) hp l h.all (t, 0) (Nat.two_pow_pos _)
  rw [hx] at k1 k2
  dsimp only at k1 k2
  rw [zero_cl, pmod_zero_left, Nat.xor_zero] at k2
  refine ⟨k1, fun hv => ?_, fun hv w hw e => ?_⟩
  · rw [hv, Nat.zero_xor] at k2; exact k2
  · have := h.spans hp n (Nat.le_refl _) w hw
    rw [e] at this
    have h2 : clv l t = v := by unfold clv; rw [hx]
    exact hv (h2.symm.trans this)
/-! ### the binary greatest common divisor -/
theorem two_is (a : Nat) : cl 2 a = 2 * a := by rw [show (2 : Nat) = 2 ^ 1 from rfl, pow_cl]; omega
theorem odd_free {d : Nat} (h : d % 2 = 1) {a : Nat} (k : Dv d (2 * a)) : Dv d a := by
  -- 1 = d + 2 * (d / 2), so a = d a + (d / 2) (2 a)
  have e : (1 : Nat) = d ^^^ 2 * (d / 2) := by
    apply Nat.eq_of_testBit_eq
    intro i
    rw [Nat.testBit_xor]
    cases i with
    | zero => simp [h]
    | succ i => simp [Nat.testBit_succ]
  have e2 : a = cl d a ^^^ cl (d / 2) (2 * a) := by
    have : cl (d / 2) (2 * a) = cl (2 * (d / 2)) a := by rw [cl_bit0, two_cl]
    rw [this, ← cl_xor_left, ← e, one_cl]
  rw [e2]
  exact Dv.xor ((Dv.refl d).mul_right a) (k.mul_left _)
theorem dv_odd {d b : Nat} (h : b % 2 = 1) (k : Dv d b) : d % 2 = 1 := by
  obtain ⟨q, hq⟩ := k
  rcases Nat.mod_two_eq_zero_or_one d with h0 | h0
  · exfalso
    have e : d = 2 * (d / 2) := by omega
    rw [hq, e, cl_bit0] at h
    omega
  · exact h0
theorem pgcd_half_left {a b : Nat} (h : b % 2 = 1) : pgcd (2 * a) b = pgcd a b := by
  refine pgcd_unique (odd_free (dv_odd h (pgcd_dv_right _ _)) (pgcd_dv_left _ _)) (pgcd_dv_right _ _) (fun d h1 h2 => dv_pgcd ?_ h2)
  have := h1.mul_left 2
  rw [two_is] at this; exact this
theorem pgcd_half_right {a b : Nat} (h : a % 2 = 1) : pgcd a (2 * b) = pgcd a b := by rw [pgcd_comm, pgcd_half_left h, pgcd_comm]
theorem pgcd_two (a b : Nat) : pgcd (2 * a) (2 * b) = 2 * pgcd a b := by rw [← two_is, ← two_is, pgcd_cl, two_is]
theorem pgcd_add_left (a b : Nat) : pgcd (a ^^^ b) b = pgcd a b := by
  refine pgcd_unique ?_ (pgcd_dv_right _ _) (fun d h1 h2 => dv_pgcd (Dv.xor h1 h2) h2)
  have := Dv.xor (pgcd_dv_left (a ^^^ b) b) (pgcd_dv_right (a ^^^ b) b)
  rwa [xor_cancel_right] at this
theorem pgcd_add_right (a b : Nat) : pgcd a (b ^^^ a) = pgcd a b := by rw [pgcd_comm, pgcd_add_left, pgcd_comm]
theorem pgcd_zero_left (b : Nat) : pgcd 0 b = b := by rw [pgcd_comm, pgcd_zero]
end GP
end
section
/- Sums and determinants over a field in which a + a = 0. -/
namespace LA
class Fld (F : Type) extends Add F, Mul F, Zero F, One F where
  iv : F → F
  add_comm : ∀ a b : F, a + b = b + a
  add_assoc : ∀ a b c : F, a + b + c = a + (b + c)
  add_zero : ∀ a : F, a + 0 = a
  add_self : ∀ a : F, a + a = 0
  mul_comm : ∀ a b : F, a * b = b * a
  mul_assoc : ∀ a b c : F, a * b * c = a * (b * c)
  mul_one : ∀ a : F, a * 1 = a
  mul_add : ∀ a b c : F, a * (b + c) = a * b + a * c
  one_ne : (1 : F) ≠ 0
  mul_iv : ∀ a : F, a ≠ 0 → a * iv a = 1
  dec : ∀ a b : F, Decidable (a = b)
open Fld
variable {F : Type} [Fld F]
instance : DecidableEq F := fun a b => Fld.dec a b
instance : Std.Associative (α := F) (· + ·) := ⟨Fld.add_assoc⟩
instance : Std.Commutative (α := F) (· + ·) := ⟨Fld.add_comm⟩
instance : Std.Associative (α := F) (· * ·) := ⟨Fld.mul_assoc⟩
instance : Std.Commutative (α := F) (· * ·) := ⟨Fld.mul_comm⟩
theorem zero_add (a : F) : 0 + a = a := by rw [Fld.add_comm, Fld.add_zero]
theorem one_mul (a : F) : 1 * a = a := by rw [Fld.mul_comm, Fld.mul_one]
theorem add_mul (a b c : F) : (a + b) * c = a * c + b * c := by rw [Fld.mul_comm, Fld.mul_add, Fld.mul_comm c a, Fld.mul_comm c b]
theorem add_cancel {a b c : F} (h : a + b = a + c) : b = c := by
  have e : a + (a + b) = a + (a + c) := by rw [h]
  rwa [← Fld.add_assoc, ← Fld.add_assoc, Fld.add_self, zero_add, zero_add] at e
theorem mul_zero (a : F) : a * 0 = 0 := by
  have h : a * 0 + a * 0 = a * 0 + 0 := by rw [← Fld.mul_add, Fld.add_zero, Fld.add_zero]
  exact add_cancel h
theorem zero_mul (a : F) : 0 * a = 0 := by rw [Fld.mul_comm, mul_zero]
theorem add_left_comm (a b c : F) : a + (b + c) = b + (a + c) := by rw [← Fld.add_assoc, Fld.add_comm a b, Fld.add_assoc]
theorem mul_left_comm (a b c : F) : a * (b * c) = b * (a * c) := by rw [← Fld.mul_assoc, Fld.mul_comm a b, Fld.mul_assoc]
theorem add_add (a b c d : F) : a + b + (c + d) = a + c + (b + d) := by ac_rfl
theorem eq_of_add {a b : F} (h : a + b = 0) : a = b := by
  have : a + b = b + b := by rw [h, Fld.add_self]
  rw [Fld.add_comm, Fld.add_comm b b] at this
  exact add_cancel (a := b) (by rw [this])
theorem iv_mul {a : F} (h : a ≠ 0) : iv a * a = 1 := by rw [Fld.mul_comm, Fld.mul_iv a h]
theorem iv_mul_cancel {a : F} (h : a ≠ 0) (b : F) : iv a * (a * b) = b := by rw [← Fld.mul_assoc, iv_mul h, one_mul]
theorem mul_iv_cancel {a : F} (h : a ≠ 0) (b : F) : a * (iv a * b) = b := by rw [← Fld.mul_assoc, Fld.mul_iv a h, one_mul]
theorem mul_eq_zero {a b : F} : a * b = 0 ↔ a = 0 ∨ b = 0 := by
  constructor
  · intro h
    by_cases ha : a = 0
    · exact .inl ha
    · right
      have := iv_mul_cancel ha b
      rw [h, mul_zero] at this
      exact this.symm
  · rintro (rfl | rfl)
    · exact zero_mul _
    · exact mul_zero _
theorem mul_ne {a b : F} (ha : a ≠ 0) (hb : b ≠ 0) : a * b ≠ 0 := fun h => (mul_eq_zero.1 h).elim ha hb
/-! ### sums -/
/-- f 0 + .. + f (n - 1). -/
def sm : Nat → (Nat → F) → F
  | 0, _ => 0
  | n + 1, f => sm n f + f n
theorem sm_congr {n : Nat} {f g : Nat → F} (h : ∀ i, i < n → f i = g i) : sm n f = sm n g := by
  induction n with
  | zero => rfl
  | succ n ih => rw [sm, sm, ih (fun i hi => h i (by omega)), h n (by omega)]
theorem sm_zero (n : Nat) : sm n (fun _ => (0 : F)) = 0 := by
  induction n with
  | zero => rfl
  | succ n ih => rw [sm, ih, Fld.add_zero]
theorem sm_none {n : Nat} {f : Nat → F} (h : ∀ i, i < n → f i = 0) : sm n f = 0 := by rw [sm_congr h, sm_zero]
theorem sm_add (n : Nat) (f g : Nat → F) : sm n (fun i => f i + g i) = sm n f + sm n g := by
  induction n with
  | zero => rw [sm, sm, sm, Fld.add_zero]
  | succ n ih => rw [sm, sm, sm, ih, add_add]
theorem sm_mul (n : Nat) (a : F) (f : Nat → F) : sm n (fun i => a * f i) = a * sm n f := by
  induction n with
  | zero => rw [sm, sm, mul_zero]
  | succ n ih => rw [sm, sm, ih, Fld.mul_add]
theorem sm_mul_right (n : Nat) (a : F) (f : Nat → F) : sm n (fun i => f i * a) = sm n f * a := by
  rw [Fld.mul_comm, ← sm_mul]
  exact sm_congr (fun i _ => Fld.mul_comm _ _)
theorem sm_comm (n m : Nat) (f : Nat → Nat → F) : sm n (fun i => sm m (f i)) = sm m (fun j => sm n (fun i => f i j)) := by
  induction n with
  | zero => rw [sm]; exact (sm_none (fun _ _ => rfl)).symm
  | succ n ih => rw [sm, ih, ← sm_add]; rfl
theorem sm_one {n i : Nat} (hi : i < n) {f : Nat → F} (h : ∀ j, j < n → j ≠ i → f j = 0) : sm n f = f i := by
  induction n with
  | zero => omega
  | succ n ih =>
    rw [sm]
    by_cases e : i = n
    · subst e
      rw [sm_none (fun j hj => h j (by omega) (by omega)), zero_add]
    · rw [ih (by omega) (fun j hj hji => h j (by omega) hji), h n (by omega) (fun e' => e e'.symm), Fld.add_zero]
theorem sm_append (n m : Nat) (f : Nat → F) : sm (n + m) f = sm n f + sm m (fun i => f (n + i)) := by
  induction m with
  | zero => rw [Nat.add_zero, sm, Fld.add_zero]
  | succ m ih => rw [← Nat.add_assoc, sm, sm, ih, Fld.add_assoc]
theorem sm_first (n : Nat) (f : Nat → F) : sm (n + 1) f = f 0 + sm n (fun i => f (i + 1)) := by
  rw [Nat.add_comm n 1, sm_append, show sm 1 f = f 0 by rw [sm, sm, zero_add]]
  congr 1
  exact sm_congr (fun i _ => by rw [Nat.add_comm])
/-! ### sums over the ways to pick one out of a list -/
section
variable {α : Type}
/-- The sum of f y (the others) over all y of the list. -/
def pk : (α → List α → F) → List α → F
  | _, [] => 0
  | f, x :: xs => f x xs + pk (fun y ys => f y (x :: ys)) xs
theorem pk_congr {f g : α → List α → F} : ∀ {l : List α}, (∀ y ys, (y :: ys).Perm l → f y ys = g y ys) → pk f l = pk g l := by
  intro l
  induction l generalizing f g with
  | nil => intro _; rfl
  | cons x xs ih =>
    intro h
    rw [pk, pk, h x xs (List.Perm.refl _), ih (fun y ys hp => h y (x :: ys) ((List.Perm.swap x y ys).trans (hp.cons x)))]
theorem pk_add (f g : α → List α → F) (l : List α) : pk (fun y ys => f y ys + g y ys) l = pk f l + pk g l := by
  induction l generalizing f g with
  | nil => rw [pk, pk, pk, Fld.add_zero]
  | cons x xs ih => rw [pk, pk, pk, ih, add_add]
theorem pk_mul (a : F) (f : α → List α → F) (l : List α) : pk (fun y ys => a * f y ys) l = a * pk f l := by
  induction l generalizing f with
  | nil => rw [pk, pk, mul_zero]
  | cons x xs ih => rw [pk, pk, ih, Fld.mul_add]
theorem pk_zero (l : List α) : pk (fun _ _ => (0 : F)) l = 0 := by
  induction l with
  | nil => rfl
  | cons x xs ih => rw [pk, ih, Fld.add_zero]
theorem pk_none {f : α → List α → F} {l : List α} (h : ∀ y ys, (y :: ys).Perm l → f y ys = 0) : pk f l = 0 := by rw [pk_congr h, pk_zero]
theorem pk_map {β : Type} (g : β → α) (f : α → List α → F) (l : List β) : pk f (l.map g) = pk (fun y ys => f (g y) (ys.map g)) l := by
  induction l generalizing f with
  | nil => rfl
  | cons x xs ih => rw [List.map_cons, pk, pk, ih]; rfl
/-- Two sums change places. -/
theorem pk_comm {β : Type} (f : α → List α → β → List β → F) (l : List α) (m : List β) : pk (fun x xs => pk (f x xs) m) l = pk (fun y ys => pk (fun x xs => f x xs y ys) l) m := by
  induction l generalizing f with
  | nil => simp only [pk]; exact (pk_zero m).symm
  | cons x xs ih => simp only [pk]; rw [ih, ← pk_add]
/-- The sum over the ways to pick two, one after the other. -/
def pk2 (f : α → α → List α → F) (l : List α) : F := pk (fun x xs => pk (fun y ys => f x y ys) xs) l
theorem pk2_cons (f : α → α → List α → F) (x : α) (xs : List α) : pk2 f (x :: xs) = pk (fun y ys => f x y ys) xs + (pk (fun y ys => f y x ys) xs + pk2 (fun a b c => f a b (x :: c)) xs) := by
  unfold pk2
  rw [pk]
  congr 1
  rw [← pk_add]
  rfl
theorem pk2_swap (f : α → α → List α → F) (l : List α) : pk2 f l = pk2 (fun x y r => f y x r) l := by
  induction l generalizing f with
  | nil => rfl
  | cons x xs ih => rw [pk2_cons, pk2_cons, ih, add_left_comm]
theorem pk2_sym {f : α → α → List α → F} (h : ∀ x y r, f x y r = f y x r) (l : List α) : pk2 f l = 0 := by
  induction l generalizing f with
  | nil => rfl
  | cons x xs ih =>
    rw [pk2_cons, ih (f := fun a b c => f a b (x :: c)) (fun a b c => h a b _), Fld.add_zero]
    rw [pk_congr (g := fun y ys => f x y ys) (f := fun y ys => f y x ys) (fun y ys _ => h y x ys), Fld.add_self]
end
/-! ### determinants: of a list of rows, at a list of columns -/
/-- The sum over all ways to choose a column for each row, none twice, of the products. -/
def D : List (Nat → F) → List Nat → F
  | [], _ => 1
  | r :: rs, cs => pk (fun c rest => r c * D rs rest) cs
theorem D_swap (r s : Nat → F) (rs : List (Nat → F)) (cs : List Nat) : D (r :: s :: rs) cs = D (s :: r :: rs) cs := by
  have key : ∀ a b : Nat → F, D (a :: b :: rs) cs = pk2 (fun c d rest => a c * (b d * D rs rest)) cs := by
    intro a b
    show pk (fun c rest => a c * pk (fun d rest' => b d * D rs rest') rest) cs = _
    unfold pk2
    exact pk_congr (fun y ys _ => (pk_mul _ _ _).symm)
  rw [key, key, pk2_swap]
  congr 1
  funext c d rest
  exact mul_left_comm _ _ _
theorem D_rows {rs rs' : List (Nat → F)} (h : rs.Perm rs') : ∀ cs : List Nat, D rs cs = D rs' cs := by
  induction h with
  | nil => intro cs; rfl
  | cons x p ih => intro cs; simp only [D, ih]
  | swap x y l => intro cs; exact D_swap _ _ _ _
  | trans _ _ ih1 ih2 => intro cs; rw [ih1, ih2]
theorem D_twice (r : Nat → F) (rs : List (Nat → F)) (cs : List Nat) : D (r :: r :: rs) cs = 0 := by
  have key : D (r :: r :: rs) cs = pk2 (fun c d rest => r c * (r d * D rs rest)) cs := by
    show pk (fun c rest => r c * pk (fun d rest' => r d * D rs rest') rest) cs = _
    unfold pk2
    exact pk_congr (fun y ys _ => (pk_mul _ _ _).symm)
  rw [key]
  exact pk2_sym (f := fun c d rest => r c * (r d * D rs rest)) (fun x y q => mul_left_comm (r x) (r y) (D rs q)) cs
theorem D_add (r s : Nat → F) (rs : List (Nat → F)) (cs : List Nat) : D ((fun c => r c + s c) :: rs) cs = D (r :: rs) cs + D (s :: rs) cs := by
  simp only [D]
  rw [← pk_add]
  exact pk_congr (fun y ys _ => add_mul _ _ _)
theorem D_mul (a : F) (r : Nat → F) (rs : List (Nat → F)) (cs : List Nat) : D ((fun c => a * r c) :: rs) cs = a * D (r :: rs) cs := by
  simp only [D]
  rw [← pk_mul]
  exact pk_congr (fun y ys _ => Fld.mul_assoc _ _ _)
theorem D_add_row (a : F) (r s : Nat → F) (rs : List (Nat → F)) (cs : List Nat) : D ((fun c => r c + a * s c) :: s :: rs) cs = D (r :: s :: rs) cs := by
  rw [D_add r (fun c => a * s c), D_mul, D_twice, mul_zero, Fld.add_zero]
theorem D_zero {r : Nat → F} {rs : List (Nat → F)} {cs : List Nat} (h : ∀ c, c ∈ cs → r c = 0) : D (r :: rs) cs = 0 := by
  show pk (fun c rest => r c * D rs rest) cs = 0
  exact pk_none (fun y ys hp => by rw [h y (hp.mem_iff.1 (List.mem_cons_self ..)), zero_mul])
/-- The rows count only at the columns. -/
theorem D_congr : ∀ {rs rs' : List (Nat → F)} {cs : List Nat}, rs.length = rs'.length → (∀ i (h : i < rs.length) (h' : i < rs'.length) c, c ∈ cs → rs[i] c = rs'[i] c) → D rs cs = D rs' cs := by
  intro rs
  induction rs with
  | nil => intro rs' cs hl _; cases rs' with | nil => rfl | cons => simp at hl
  | cons r rs ih =>
    intro rs' cs hl h
    cases rs' with
    | nil => simp at hl
    | cons r' rs' =>
      refine pk_congr (fun y ys hp => ?_)
      have h0 := h 0 (by simp) (by simp) y (hp.mem_iff.1 (List.mem_cons_self ..))
      have h1 := ih (rs' := rs') (cs := ys) (by simpa using hl) (fun i hi hi' c hc => h (i + 1) (by simpa using hi) (by simpa using hi') c (hp.mem_iff.1 (List.mem_cons_of_mem _ hc)))
      rw [h1]
      exact congrArg (· * D rs' ys) h0
/-- Along the first column. -/
theorem D_col : ∀ (rs : List (Nat → F)) (c : Nat) (cs : List Nat), rs.length = cs.length + 1 → D rs (c :: cs) = pk (fun r rest => r c * D rest cs) rs := by
  intro rs
  induction rs with
  | nil => intro c cs h; simp at h
  | cons r rs ih =>
    intro c cs h
    simp only [D, pk]
    congr 1
    by_cases hn : cs = []
    · subst hn
      have : rs = [] := by simpa using h
      subst this
      rfl
    · have e1 : pk (fun y ys => r y * D rs (c :: ys)) cs = pk (fun y ys => pk (fun s rest => r y * (s c * D rest ys)) rs) cs := by
        refine pk_congr (fun y ys hp => ?_)
        have hl : cs.length = ys.length + 1 := by rw [← hp.length_eq]; rfl
        rw [ih c ys (by simp at h; omega), ← pk_mul]
      rw [e1, pk_comm]
      refine pk_congr (fun s rest hp => ?_)
      rw [← pk_mul]
      exact pk_congr (fun y ys _ => mul_left_comm _ _ _)
/-- Rows and columns change places. -/
theorem D_transpose (A : Nat → Nat → F) : ∀ (is cs : List Nat), is.length = cs.length → D (is.map A) cs = D (cs.map fun c i => A i c) is := by
  intro is
  induction is with
  | nil => intro cs h; cases cs with | nil => rfl | cons => simp at h
  | cons i is ih =>
    intro cs h
    rw [D_col (cs.map fun c i => A i c) i is (by rw [List.length_map]; simpa using h.symm), pk_map]
    simp only [List.map_cons, D]
    refine pk_congr (fun y ys hp => ?_)
    have hl : cs.length = ys.length + 1 := by rw [← hp.length_eq]; rfl
    rw [ih ys (by simp at h; omega)]
/-- The determinant of the first n rows and columns. -/
def det (n : Nat) (A : Nat → Nat → F) : F := D ((List.range n).map A) (List.range n)
theorem det_congr {n : Nat} {A B : Nat → Nat → F} (h : ∀ i j, i < n → j < n → A i j = B i j) : det n A = det n B := by
  refine D_congr (by simp) (fun i hi hi' c hc => ?_)
  simp only [List.length_map, List.length_range] at hi hi'
  simp only [List.getElem_map, List.getElem_range]
  exact h i c hi (List.mem_range.1 hc)
theorem det_transpose (n : Nat) (A : Nat → Nat → F) : det n (fun i j => A j i) = det n A := by
  unfold det
  rw [D_transpose A _ _ rfl]
theorem range_erase {n i : Nat} (h : i < n) : (List.range n).Perm (i :: (List.range n).erase i) := List.perm_cons_erase (List.mem_range.2 h)
theorem mem_range_erase {n i j : Nat} : j ∈ (List.range n).erase i ↔ j ≠ i ∧ j < n := by
  rw [List.Nodup.mem_erase_iff List.nodup_range, List.mem_range]
theorem det_front {n i : Nat} (h : i < n) (A : Nat → Nat → F) : det n A = D (A i :: ((List.range n).erase i).map A) (List.range n) :=
  D_rows (by simpa using (range_erase h).map A) _
theorem det_front2 {n i j : Nat} (hi : i < n) (hj : j < n) (hij : i ≠ j) (A : Nat → Nat → F) : det n A = D (A i :: A j :: (((List.range n).erase i).erase j).map A) (List.range n) := by
  rw [det_front hi]
  refine D_rows (List.Perm.cons _ ?_) _
  have := List.perm_cons_erase (mem_range_erase.2 ⟨Ne.symm hij, hj⟩)
  simpa using this.map A
theorem mem_erase2 {n i j k : Nat} (h : k ∈ ((List.range n).erase i).erase j) : k ≠ i ∧ k ≠ j ∧ k < n := by
  rw [List.Nodup.mem_erase_iff (List.Nodup.erase _ List.nodup_range), mem_range_erase] at h
  exact ⟨h.2.1, h.1, h.2.2⟩
/-- Rows that change places. -/
theorem det_swap {n i j : Nat} (hi : i < n) (hj : j < n) (A : Nat → Nat → F) : det n (fun a => if a = i then A j else if a = j then A i else A a) = det n A := by
  by_cases hij : i = j
  · subst hij
    apply det_congr; intro a b _ _
    by_cases e : a = i
    · subst e; simp only [if_pos]
    · simp only [if_neg e]
  · rw [det_front2 hi hj hij, det_front2 hi hj hij, D_swap]
    simp only [if_pos, if_neg (Ne.symm hij)]
    have : (((List.range n).erase i).erase j).map (fun a => if a = i then A j else if a = j then A i else A a) = (((List.range n).erase i).erase j).map A := by
      apply List.map_congr_left
      intro k hk
      obtain ⟨h1, h2, _⟩ := mem_erase2 hk
      rw [if_neg h1, if_neg h2]
    rw [this]
/-- A row times a number. -/
theorem det_scale {n i : Nat} (hi : i < n) (a : F) (A : Nat → Nat → F) : det n (fun k => if k = i then fun c => a * A i c else A k) = a * det n A := by
  rw [det_front hi, det_front hi A]
  simp only [if_pos]
  rw [D_mul]
  congr 2
  have : ((List.range n).erase i).map (fun k => if k = i then fun c => a * A i c else A k) = ((List.range n).erase i).map A := by
    apply List.map_congr_left
    intro k hk
    rw [if_neg (mem_range_erase.1 hk).1]
  rw [this]
/-- A multiple of another row is added. -/
theorem det_add_row {n i j : Nat} (hi : i < n) (hj : j < n) (hij : i ≠ j) (a : F) (A : Nat → Nat → F) : det n (fun k => if k = i then fun c => A i c + a * A j c else A k) = det n A := by
  rw [det_front2 hi hj hij, det_front2 hi hj hij A]
  simp only [if_pos, if_neg (Ne.symm hij)]
  have : (((List.range n).erase i).erase j).map (fun k => if k = i then fun c => A i c + a * A j c else A k) = (((List.range n).erase i).erase j).map A := by
    apply List.map_congr_left
    intro k hk
    rw [if_neg (mem_erase2 hk).1]
  rw [this, D_add_row]
theorem det_zero_row {n i : Nat} (hi : i < n) {A : Nat → Nat → F} (h : ∀ j, j < n → A i j = 0) : det n A = 0 := by
  rw [det_front hi]
  exact D_zero (fun c hc => h c (List.mem_range.1 hc))
/-- A row times a matrix, m cells long. -/
def vm (m : Nat) (v : Nat → F) (B : Nat → Nat → F) : Nat → F := fun c => sm m (fun k => v k * B k c)
/-- The product of matrices; m: how many columns the first has. -/
def mm (m : Nat) (A B : Nat → Nat → F) : Nat → Nat → F := fun i => vm m (A i) B
def one : Nat → Nat → F := fun i j => if i = j then 1 else 0
theorem mm_assoc (m k : Nat) (A B C : Nat → Nat → F) : mm k (mm m A B) C = mm m A (mm k B C) := by
  funext i c
  show sm k (fun l => sm m (fun j => A i j * B j l) * C l c) = sm m (fun j => A i j * sm k (fun l => B j l * C l c))
  simp only [← sm_mul, ← sm_mul_right, Fld.mul_assoc]
  exact sm_comm _ _ _
theorem mm_one {m : Nat} (A : Nat → Nat → F) (i : Nat) {c : Nat} (hc : c < m) : mm m A one i c = A i c := by
  show sm m (fun k => A i k * one k c) = _
  rw [sm_one hc (fun j _ hj => by unfold one; rw [if_neg hj, mul_zero])]
  unfold one; rw [if_pos rfl, Fld.mul_one]
theorem one_mm {m : Nat} (A : Nat → Nat → F) {i : Nat} (hi : i < m) (c : Nat) : mm m one A i c = A i c := by
  show sm m (fun k => one i k * A k c) = _
  rw [sm_one hi (fun j _ hj => by unfold one; rw [if_neg (Ne.symm hj), zero_mul])]
  unfold one; rw [if_pos rfl, one_mul]
theorem vm_add (m : Nat) (v w : Nat → F) (B : Nat → Nat → F) (c : Nat) : vm m (fun k => v k + w k) B c = vm m v B c + vm m w B c := by
  unfold vm; rw [← sm_add]; exact sm_congr (fun k _ => add_mul _ _ _)
theorem vm_mul (m : Nat) (a : F) (v : Nat → F) (B : Nat → Nat → F) (c : Nat) : vm m (fun k => a * v k) B c = a * vm m v B c := by
  unfold vm; rw [← sm_mul]; exact sm_congr (fun k _ => Fld.mul_assoc _ _ _)
theorem vm_congr {m : Nat} {v w : Nat → F} (h : ∀ k, k < m → v k = w k) (B : Nat → Nat → F) (c : Nat) : vm m v B c = vm m w B c :=
  sm_congr (fun k hk => by rw [h k hk])
/-- The unit matrix's determinant. -/
theorem D_unit : ∀ (is : List Nat), is.Nodup → D (is.map (one (F := F))) is = 1 := by
  intro is
  induction is with
  | nil => intro _; rfl
  | cons i is ih =>
    intro h
    obtain ⟨h1, h2⟩ := List.nodup_cons.1 h
    rw [List.map_cons, D, pk]
    rw [pk_none (fun y ys hp => by
      have : y ≠ i := fun e => h1 (e ▸ hp.mem_iff.1 (List.mem_cons_self ..))
      unfold one; rw [if_neg (Ne.symm this), zero_mul])]
    rw [ih h2]
    unfold one; rw [if_pos rfl, Fld.mul_one, Fld.add_zero]
theorem det_one (n : Nat) : det n (one (F := F)) = 1 := D_unit _ List.nodup_range
end LA
end
section
/- Polynomials over a field with a + a = 0: roots, Lagrange's formula. -/
namespace LA
set_option linter.unusedVariables false
set_option linter.unusedSectionVars false
open Fld
variable {F : Type} [Fld F]
/-- Powers. -/
def px (x : F) : Nat → F
  | 0 => 1
  | n + 1 => px x n * x
/-- The value of the polynomial with these coefficients, k of them. -/
def ev (k : Nat) (a : Nat → F) (x : F) : F := sm k (fun c => a c * px x c)
/-- f is a polynomial of a degree below k. -/
def IsP (k : Nat) (f : F → F) : Prop := ∃ a : Nat → F, ∀ x, f x = ev k a x
theorem IsP.congr {k : Nat} {f g : F → F} (h : IsP k f) (e : ∀ x, f x = g x) : IsP k g := by
  obtain ⟨a, ha⟩ := h; exact ⟨a, fun x => by rw [← e, ha]⟩
theorem IsP.none {f : F → F} (h : IsP 0 f) (x : F) : f x = 0 := by obtain ⟨a, ha⟩ := h; rw [ha]; rfl
theorem IsP.zero (k : Nat) : IsP k (fun _ => (0 : F)) := ⟨fun _ => 0, fun x => (sm_none (fun i _ => zero_mul _)).symm⟩
theorem IsP.add {k : Nat} {f g : F → F} (hf : IsP k f) (hg : IsP k g) : IsP k (fun x => f x + g x) := by
  obtain ⟨a, ha⟩ := hf
  obtain ⟨b, hb⟩ := hg
  refine ⟨fun c => a c + b c, fun x => ?_⟩
  show f x + g x = sm k (fun c => (a c + b c) * px x c)
  rw [ha, hb]
  unfold ev
  rw [← sm_add]
  exact sm_congr (fun i _ => (add_mul _ _ _).symm)
theorem IsP.mul {k : Nat} {f : F → F} (hf : IsP k f) (c : F) : IsP k (fun x => c * f x) := by
  obtain ⟨a, ha⟩ := hf
  refine ⟨fun i => c * a i, fun x => ?_⟩
  show c * f x = sm k (fun i => c * a i * px x i)
  rw [ha]
  unfold ev
  rw [← sm_mul]
  exact sm_congr (fun i _ => (Fld.mul_assoc _ _ _).symm)
theorem IsP.mul_right {k : Nat} {f : F → F} (hf : IsP k f) (c : F) : IsP k (fun x => f x * c) := (hf.mul c).congr (fun x => Fld.mul_comm _ _)
theorem IsP.sum {k : Nat} : ∀ {n : Nat} {f : Nat → F → F}, (∀ i, i < n → IsP k (f i)) → IsP k (fun x => sm n (fun i => f i x)) := by
  intro n
  induction n with
  | zero => intro f _; exact IsP.zero k
  | succ n ih => intro f h; exact (ih (fun i hi => h i (by omega))).add (h n (by omega))
theorem IsP.const (c : F) {k : Nat} (hk : 0 < k) : IsP k (fun _ => c) := by
  refine ⟨fun i => if i = 0 then c else 0, fun x => ?_⟩
  unfold ev
  rw [sm_one hk (fun j _ hj => by simp only [if_neg hj, zero_mul])]
  simp only [if_true]
  exact (Fld.mul_one c).symm
theorem IsP.up {k m : Nat} {f : F → F} (h : IsP k f) (hkm : k ≤ m) : IsP m f := by
  obtain ⟨a, ha⟩ := h
  refine ⟨fun i => if i < k then a i else 0, fun x => ?_⟩
  rw [ha]
  unfold ev
  obtain ⟨d, rfl⟩ : ∃ d, m = k + d := ⟨m - k, by omega⟩
  rw [sm_append, sm_none (n := d) (fun i _ => by simp only [if_neg (show ¬ k + i < k by omega), zero_mul]), Fld.add_zero]
  exact sm_congr (fun i hi => by simp only [if_pos hi])
/-- x times a polynomial. -/
theorem IsP.shift {k : Nat} {f : F → F} (h : IsP k f) : IsP (k + 1) (fun x => f x * x) := by
  obtain ⟨a, ha⟩ := h
  refine ⟨fun i => if i = 0 then 0 else a (i - 1), fun x => ?_⟩
  unfold ev
  rw [sm_first]
  simp only [if_true, zero_mul, zero_add]
  rw [ha]
  unfold ev
  rw [← sm_mul_right]
  exact sm_congr (fun i _ => by simp only [if_neg (show ¬ i + 1 = 0 by omega), Nat.add_sub_cancel]; rw [px, Fld.mul_assoc])
theorem IsP.lin {k : Nat} {f : F → F} (h : IsP k f) (c : F) : IsP (k + 1) (fun x => f x * (x + c)) :=
  (h.shift.add ((h.mul_right c).up (by omega))).congr (fun x => (Fld.mul_add _ _ _).symm)
/-- The lowest coefficient, and x times the rest. -/
theorem IsP.low {k : Nat} {f : F → F} (h : IsP (k + 1) f) : ∃ (c : F) (g : F → F), IsP k g ∧ ∀ x, f x = c + g x * x := by
  obtain ⟨a, ha⟩ := h
  refine ⟨a 0, ev k (fun i => a (i + 1)), ⟨_, fun x => rfl⟩, fun x => ?_⟩
  rw [ha]
  unfold ev
  rw [sm_first, ← sm_mul_right]
  simp only [px, Fld.mul_one]
  congr 1
  exact sm_congr (fun i _ => by rw [Fld.mul_assoc])
/-- By x + u, with what is left. -/
theorem IsP.divide (u : F) : ∀ {k : Nat} {f : F → F}, IsP (k + 1) f → ∃ g : F → F, IsP k g ∧ ∀ x, f x = f u + (x + u) * g x := by
  intro k
  induction k with
  | zero =>
    intro f h
    obtain ⟨c, g, hg, he⟩ := h.low
    refine ⟨fun _ => 0, IsP.zero 0, fun x => ?_⟩
    rw [he, he, hg.none, hg.none, zero_mul, zero_mul, mul_zero, Fld.add_zero, Fld.add_zero]
  | succ k ih =>
    intro f h
    obtain ⟨c, f1, hf1, he⟩ := h.low
    obtain ⟨g1, hg1, e1⟩ := ih hf1
    refine ⟨fun x => f1 u + g1 x * x, (IsP.const (f1 u) (by omega)).add hg1.shift, fun x => ?_⟩
    rw [he x, he u, e1 x]
    have : ∀ a b x u : F, c + (a + (x + u) * b) * x = c + a * u + (x + u) * (a + b * x) := fun a b x u => by
      rw [add_mul, Fld.mul_add, add_mul x u a, Fld.add_assoc c, Fld.mul_assoc, Fld.mul_comm u a, Fld.mul_comm x a]
      rw [← Fld.add_assoc (a * u), Fld.add_comm (a * u) (a * x + a * u), Fld.add_assoc (a * x), Fld.add_self, Fld.add_zero]
    exact this _ _ _ _
/-- As many unlike roots as its length: it is 0. -/
theorem IsP.roots : ∀ {k : Nat} {f : F → F} {u : Nat → F}, IsP k f → (∀ i j, i < k → j < k → u i = u j → i = j) → (∀ i, i < k → f (u i) = 0) → ∀ x, f x = 0 := by
  intro k
  induction k with
  | zero => intro f u h _ _ x; exact h.none x
  | succ k ih =>
    intro f u h hu hz x
    obtain ⟨g, hg, he⟩ := h.divide (u k)
    rw [hz k (by omega)] at he
    have hg0 := ih hg (fun i j hi hj => hu i j (by omega) (by omega)) (fun i hi => by
      have h1 := hz i (by omega)
      rw [he, zero_add] at h1
      rcases mul_eq_zero.1 h1 with e | e
      · have := hu i k (by omega) (by omega) (eq_of_add e); omega
      · exact e)
    rw [he, hg0, mul_zero, zero_add]
/-- Products. -/
def pm : Nat → (Nat → F) → F
  | 0, _ => 1
  | n + 1, f => pm n f * f n
theorem pm_zero {n i : Nat} (hi : i < n) {f : Nat → F} (h : f i = 0) : pm n f = 0 := by
  induction n with
  | zero => omega
  | succ n ih =>
    show pm n f * f n = 0
    by_cases e : i = n
    · subst e; rw [h, mul_zero]
    · rw [ih (by omega), zero_mul]
theorem pm_ne {n : Nat} {f : Nat → F} (h : ∀ i, i < n → f i ≠ 0) : pm n f ≠ 0 := by
  induction n with
  | zero => exact Fld.one_ne
  | succ n ih => exact mul_ne (ih (fun i hi => h i (by omega))) (h n (by omega))
/-- The product of x + u(l) over l below k but i. -/
def top (k : Nat) (u : Nat → F) (i : Nat) (x : F) : F := pm k (fun l => if l = i then 1 else x + u l)
theorem top_isP (u : Nat → F) (i : Nat) : ∀ k, IsP (if i < k then k else k + 1) (top k u i) := by
  intro k
  induction k with
  | zero => rw [if_neg (by omega)]; exact IsP.const 1 (by omega)
  | succ k ih =>
    by_cases h : i < k
    · rw [if_pos h] at ih
      rw [if_pos (by omega)]
      refine (ih.lin (u k)).congr (fun x => ?_)
      show _ = top k u i x * (if k = i then 1 else x + u k)
      rw [if_neg (by omega)]
    · rw [if_neg h] at ih
      by_cases e : i = k
      · subst e
        rw [if_pos (by omega)]
        refine ih.congr (fun x => ?_)
        show _ = top i u i x * (if i = i then 1 else x + u i)
        rw [if_pos rfl, Fld.mul_one]
      · rw [if_neg (by omega)]
        refine (ih.lin (u k)).congr (fun x => ?_)
        show _ = top k u i x * (if k = i then 1 else x + u k)
        rw [if_neg (by omega)]
theorem top_at {k : Nat} {u : Nat → F} {i j : Nat} (hj : j < k) (h : j ≠ i) : top k u i (u j) = 0 := pm_zero hj (by rw [if_neg h, Fld.add_self])
theorem top_ne {k : Nat} {u : Nat → F} (hu : ∀ i j, i < k → j < k → u i = u j → i = j) {i : Nat} (hi : i < k) : top k u i (u i) ≠ 0 := pm_ne (fun l hl => by
  by_cases e : l = i
  · rw [if_pos e]; exact Fld.one_ne
  · rw [if_neg e]; intro h; exact e (hu l i hl hi (eq_of_add h).symm))
/-- Lagrange's factor. -/
def lag (k : Nat) (u : Nat → F) (i : Nat) (x : F) : F := top k u i x * iv (top k u i (u i))
end LA
end
section
/- Gauss and Jordan: the reduced form, its only one; what it says of the determinant, the inverse, the rank. -/
namespace LA
set_option linter.unusedVariables false
set_option linter.unusedSectionVars false
open Fld
variable {F : Type} [Fld F]
/-- The first row from top on, below m, whose cell in column c is not 0. -/
def fp (A : Nat → Nat → F) (c m : Nat) : Nat → Nat → Option Nat
  | 0, _ => none
  | n + 1, r => if r < m then (if A r c = 0 then fp A c m n (r + 1) else some r) else none
theorem fp_some {A : Nat → Nat → F} {c m : Nat} : ∀ {n r q : Nat}, fp A c m n r = some q → r ≤ q ∧ q < m ∧ A q c ≠ 0 ∧ ∀ k, r ≤ k → k < q → A k c = 0 := by
  intro n
  induction n with
  | zero => intro r q h; exact absurd h (by simp [fp])
  | succ n ih =>
    intro r q h
    rw [fp] at h
    by_cases h1 : r < m
    · rw [if_pos h1] at h
      by_cases h2 : A r c = 0
      · rw [if_pos h2] at h
        obtain ⟨a, b, d, e⟩ := ih h
        refine ⟨by omega, b, d, fun k hk hq => ?_⟩
        by_cases e1 : k = r
        · rw [e1]; exact h2
        · exact e k (by omega) hq
      · rw [if_neg h2] at h
        obtain rfl := Option.some.inj h
        exact ⟨Nat.le_refl _, h1, h2, fun k hk hq => by omega⟩
    · rw [if_neg h1] at h; exact absurd h (by simp)
theorem fp_none {A : Nat → Nat → F} {c m : Nat} : ∀ {n r : Nat}, m ≤ r + n → fp A c m n r = none → ∀ k, r ≤ k → k < m → A k c = 0 := by
  intro n
  induction n with
  | zero => intro r hn _ k h1 h2; omega
  | succ n ih =>
    intro r hn h k h1 h2
    rw [fp, if_pos (by omega)] at h
    by_cases h3 : A r c = 0
    · rw [if_pos h3] at h
      by_cases e : k = r
      · rw [e]; exact h3
      · exact ih (by omega) h k (by omega) h2
    · rw [if_neg h3] at h; exact absurd h (by simp)
/-- Two rows change places. -/
def sw (A : Nat → Nat → F) (i j : Nat) : Nat → Nat → F := fun a => if a = i then A j else if a = j then A i else A a
/-- Row t is brought to 1 in column c. -/
def scl (A : Nat → Nat → F) (t c : Nat) : Nat → Nat → F := fun a => if a = t then fun j => iv (A t c) * A t j else A a
/-- The rows but t are brought to 0 in column c by row t. -/
def clr (A : Nat → Nat → F) (t c : Nat) : Nat → Nat → F := fun a => if a = t then A t else fun j => A a j + A a c * A t j
/-- One column's turn. -/
def turn (m : Nat) (s : (Nat → Nat → F) × List Nat × F) (c : Nat) : (Nat → Nat → F) × List Nat × F :=
  match fp s.1 c m m s.2.1.length with
  | none => (s.1, s.2.1, 0)
  | some r => (clr (scl (sw s.1 s.2.1.length r) s.2.1.length c) s.2.1.length c, s.2.1 ++ [c], s.2.2 * s.1 r c)
/-- The first n columns' turns. -/
def gj (m : Nat) (A : Nat → Nat → F) : Nat → (Nat → Nat → F) × List Nat × F
  | 0 => (A, [], 1)
  | n + 1 => turn m (gj m A n) n
/-- A is made of B's rows, m of them. -/
def Of (w k m : Nat) (A B : Nat → Nat → F) : Prop := ∃ X : Nat → Nat → F, ∀ i j, i < k → j < w → A i j = mm m X B i j
theorem Of.refl (w m : Nat) (A : Nat → Nat → F) : Of w m m A A := ⟨one, fun i j hi _ => (one_mm A hi j).symm⟩
theorem Of.trans {w k m n : Nat} {A B C : Nat → Nat → F} (h : Of w k m A B) (h' : Of w m n B C) : Of w k n A C := by
  obtain ⟨X, hX⟩ := h
  obtain ⟨Y, hY⟩ := h'
  refine ⟨mm m X Y, fun i j hi hj => ?_⟩
  rw [hX i j hi hj, mm_assoc]
  exact sm_congr (fun l hl => by rw [hY l j hl hj])
theorem Of.row {w k m : Nat} {A B : Nat → Nat → F} (h : ∀ i, i < k → ∃ x : Nat → F, ∀ j, j < w → A i j = vm m x B j) : Of w k m A B := by
  refine ⟨fun i => if h' : i < k then Classical.choose (h i h') else fun _ => 0, fun i j hi hj => ?_⟩
  show _ = vm m (if h' : i < k then Classical.choose (h i h') else fun _ => 0) B j
  rw [dif_pos hi]
  exact Classical.choose_spec (h i hi) j hj
theorem vm_unit {m i : Nat} (hi : i < m) (B : Nat → Nat → F) (j : Nat) : vm m (fun k => if k = i then 1 else 0) B j = B i j := by
  unfold vm
  rw [sm_one hi (fun k _ hk => by simp only [if_neg hk, zero_mul])]
  simp only [if_true, one_mul]
theorem vm_two {m i t : Nat} (hi : i < m) (ht : t < m) (a b : F) (B : Nat → Nat → F) (j : Nat) : vm m (fun k => a * (if k = i then 1 else 0) + b * (if k = t then 1 else 0)) B j = a * B i j + b * B t j := by
  rw [vm_add, vm_mul, vm_mul, vm_unit hi, vm_unit ht]
theorem of_sw {w m i j : Nat} (hi : i < m) (hj : j < m) (A : Nat → Nat → F) : Of w m m (sw A i j) A :=
  Of.row fun a ha => by
    by_cases e1 : a = i
    · exact ⟨_, fun c _ => by rw [vm_unit hj]; unfold sw; rw [if_pos e1]⟩
    · by_cases e2 : a = j
      · exact ⟨_, fun c _ => by rw [vm_unit hi]; unfold sw; rw [if_neg e1, if_pos e2]⟩
      · exact ⟨_, fun c _ => by rw [vm_unit ha]; unfold sw; rw [if_neg e1, if_neg e2]⟩
theorem sw_sw (A : Nat → Nat → F) (i j : Nat) : sw (sw A i j) i j = A := by
  funext a
  unfold sw
  by_cases e1 : a = i
  · subst e1
    by_cases e : j = a
    · subst e; simp
    · simp [e]
  · by_cases e2 : a = j
    · subst e2; simp [e1]
    · simp [e1, e2]
theorem of_scl {w m t c : Nat} (ht : t < m) (A : Nat → Nat → F) : Of w m m (scl A t c) A :=
  Of.row fun a ha => by
    by_cases e : a = t
    · exact ⟨fun k => iv (A t c) * (if k = t then 1 else 0), fun j _ => by rw [vm_mul, vm_unit ht]; unfold scl; rw [if_pos e]⟩
    · exact ⟨_, fun j _ => by rw [vm_unit ha]; unfold scl; rw [if_neg e]⟩
theorem scl_of {w m t c : Nat} (ht : t < m) {A : Nat → Nat → F} (h0 : A t c ≠ 0) : Of w m m A (scl A t c) :=
  Of.row fun a ha => by
    by_cases e : a = t
    · exact ⟨fun k => A t c * (if k = t then 1 else 0), fun j _ => by rw [vm_mul, vm_unit ht]; unfold scl; rw [if_pos rfl, mul_iv_cancel h0, e]⟩
    · exact ⟨_, fun j _ => by rw [vm_unit ha]; unfold scl; rw [if_neg e]⟩
theorem of_clr {w m t c : Nat} (ht : t < m) (A : Nat → Nat → F) : Of w m m (clr A t c) A :=
  Of.row fun a ha => by
    by_cases e : a = t
    · exact ⟨_, fun j _ => by rw [vm_unit ht]; unfold clr; rw [if_pos e]⟩
    · exact ⟨_, fun j _ => by rw [vm_two ha ht 1 (A a c), one_mul]; unfold clr; rw [if_neg e]⟩
theorem clr_of {w m t c : Nat} (ht : t < m) (A : Nat → Nat → F) : Of w m m A (clr A t c) :=
  Of.row fun a ha => by
    by_cases e : a = t
    · exact ⟨_, fun j _ => by rw [vm_unit ht]; unfold clr; rw [if_pos rfl, e]⟩
    · refine ⟨fun k => 1 * (if k = a then 1 else 0) + A a c * (if k = t then 1 else 0), fun j _ => ?_⟩
      · rw [vm_two ha ht 1 (A a c), one_mul]; unfold clr; rw [if_neg e, if_pos rfl, Fld.add_assoc, Fld.add_self, Fld.add_zero]
/-- What holds when the first c columns have had their turns. -/
structure Red (m w c : Nat) (A : Nat → Nat → F) (ps : List Nat) : Prop where
  le : ps.length ≤ m
  rise : ps.Pairwise (· < ·)
  below : ∀ p, p ∈ ps → p < c
  lead : ∀ i (h : i < ps.length), A i ps[i] = 1
  clean : ∀ i (h : i < ps.length) a, a < m → a ≠ i → A a ps[i] = 0
  left : ∀ i (h : i < ps.length) j, j < ps[i] → A i j = 0
  rest : ∀ a j, ps.length ≤ a → a < m → j < c → A a j = 0
theorem Red.start (m w : Nat) (A : Nat → Nat → F) : Red m w 0 A [] :=
  ⟨Nat.zero_le _, List.Pairwise.nil, fun p hp => by simp at hp, fun i h => by simp at h, fun i h => by simp at h, fun i h => by simp at h, fun a j _ _ h => by omega⟩
theorem turn_red {m w c : Nat} {A : Nat → Nat → F} {ps : List Nat} {d : F} (h : Red m w c A ps) : Red m w (c + 1) (turn m (A, ps, d) c).1 (turn m (A, ps, d) c).2.1 := by
  unfold turn
  simp only
  cases hf : fp A c m m ps.length with
  | none =>
    have hz := fp_none (n := m) (r := ps.length) (by omega) hf
    refine ⟨h.le, h.rise, fun p hp => by have := h.below p hp; omega, h.lead, h.clean, h.left, fun a j ha hm hj => ?_⟩
    by_cases e : j = c
    · subst e; exact hz a ha hm
    · exact h.rest a j ha hm (by omega)
  | some r =>
    obtain ⟨h1, h2, h3, -⟩ := fp_some hf
    simp only
    -- the swapped matrix is like A in the columns before c
    have hs : ∀ a j, a < m → (ps.length ≤ a → j < c → sw A ps.length r a j = 0) ∧ (a < ps.length → sw A ps.length r a j = A a j) := by
      intro a j ha
      unfold sw
      refine ⟨fun h4 h5 => ?_, fun h4 => ?_⟩
      · by_cases e1 : a = ps.length
        · rw [if_pos e1]; exact h.rest r j h1 h2 h5
        · rw [if_neg e1]
          by_cases e2 : a = r
          · rw [if_pos e2]; exact h.rest _ j (Nat.le_refl _) (by omega) h5
          · rw [if_neg e2]; exact h.rest a j h4 ha h5
      · rw [if_neg (by omega), if_neg (by omega)]
    have ht : sw A ps.length r ps.length = A r := by unfold sw; rw [if_pos rfl]
    generalize hB : sw A ps.length r = B at hs ht ⊢
    have hS : ∀ a j, a ≠ ps.length → scl B ps.length c a j = B a j := by intro a j e; unfold scl; rw [if_neg e]
    have hS' : ∀ j, scl B ps.length c ps.length j = iv (A r c) * A r j := by intro j; unfold scl; rw [if_pos rfl, ht]
    have hSc : scl B ps.length c ps.length c = 1 := by rw [hS']; exact iv_mul h3
    have hSz : ∀ j, j < c → scl B ps.length c ps.length j = 0 := by intro j hj; rw [hS', h.rest r j h1 h2 hj, mul_zero]
    generalize scl B ps.length c = C at hS hS' hSc hSz ⊢
    have hC : ∀ a j, a ≠ ps.length → clr C ps.length c a j = B a j + B a c * C ps.length j := by intro a j e; unfold clr; rw [if_neg e, hS a j e, hS a c e]
    have hC' : ∀ j, clr C ps.length c ps.length j = C ps.length j := by intro j; unfold clr; rw [if_pos rfl]
    generalize clr C ps.length c = E at hC hC'
    have hlen : (ps ++ [c]).length = ps.length + 1 := by simp
    have hold : ∀ a j, a < m → a ≠ ps.length → j < c → E a j = B a j := by
      intro a j ha e hj
      rw [hC a j e, hSz j hj, mul_zero, Fld.add_zero]
    have hget : ∀ i (hi : i < (ps ++ [c]).length), (i = ps.length ∧ (ps ++ [c])[i] = c) ∨ ∃ hi' : i < ps.length, (ps ++ [c])[i] = ps[i] := by
      intro i hi
      rw [hlen] at hi
      by_cases e : i = ps.length
      · subst e; left; exact ⟨rfl, by simp⟩
      · right; exact ⟨by omega, List.getElem_append_left (by omega)⟩
    refine ⟨by rw [hlen]; omega, ?_, ?_, ?_, ?_, ?_, ?_⟩
    · refine List.pairwise_append.2 ⟨h.rise, by simp, fun a ha b hb => ?_⟩
      obtain rfl : b = c := by simpa using hb
      exact h.below a ha
    · intro p hp
      rcases List.mem_append.1 hp with hp | hp
      · have := h.below p hp; omega
      · obtain rfl : p = c := by simpa using hp
        omega
    · intro i hi
      rcases hget i hi with ⟨rfl, e⟩ | ⟨hi', e⟩
      · rw [e, hC', hSc]
      · have := h.below _ (List.getElem_mem hi')
        rw [e, hold i _ (by have := h.le; omega) (by omega) this, (hs i _ (by have := h.le; omega)).2 hi', h.lead i hi']
    · intro i hi a ha hai
      rcases hget i hi with ⟨rfl, e⟩ | ⟨hi', e⟩
      · rw [e, hC a c hai, hSc, Fld.mul_one, Fld.add_self]
      · have hb := h.below _ (List.getElem_mem hi')
        rw [e]
        by_cases e1 : a = ps.length
        · subst e1; rw [hC', hSz _ hb]
        · rw [hold a _ ha e1 hb]
          by_cases e2 : a < ps.length
          · rw [(hs a _ ha).2 e2, h.clean i hi' a ha hai]
          · exact (hs a _ ha).1 (by omega) hb
    · intro i hi j hj
      rcases hget i hi with ⟨rfl, e⟩ | ⟨hi', e⟩
      · rw [e] at hj; rw [hC', hSz j hj]
      · have hb := h.below _ (List.getElem_mem hi')
        rw [e] at hj
        rw [hold i j (by have := h.le; omega) (by omega) (by omega), (hs i j (by have := h.le; omega)).2 hi', h.left i hi' j hj]
    · intro a j ha hm hj
      rw [hlen] at ha
      by_cases e : j = c
      · subst e; rw [hC a j (by omega), hSc, Fld.mul_one, Fld.add_self]
      · rw [hold a j hm (by omega) (by omega)]
        exact (hs a j hm).1 (by omega) (by omega)
theorem gj_red (m w : Nat) (A : Nat → Nat → F) : ∀ n, Red m w n (gj m A n).1 (gj m A n).2.1 := by
  intro n
  induction n with
  | zero => exact Red.start m w A
  | succ n ih =>
    rw [gj]
    exact turn_red (d := (gj m A n).2.2) ih
/-- The rows stay made of one another. -/
theorem turn_of {m w c : Nat} {s : (Nat → Nat → F) × List Nat × F} : Of w m m (turn m s c).1 s.1 ∧ Of w m m s.1 (turn m s c).1 := by
  unfold turn
  cases hf : fp s.1 c m m s.2.1.length with
  | none => exact ⟨Of.refl w m _, Of.refl w m _⟩
  | some r =>
    obtain ⟨h1, h2, h3, -⟩ := fp_some hf
    have ht : s.2.1.length < m := by omega
    have hn : sw s.1 s.2.1.length r s.2.1.length c ≠ 0 := by unfold sw; rw [if_pos rfl]; exact h3
    refine ⟨(of_clr ht _).trans ((of_scl ht _).trans (of_sw ht h2 _)), Of.trans ?_ ((scl_of ht hn).trans (clr_of ht _))⟩
    have := of_sw (w := w) ht h2 (sw s.1 s.2.1.length r)
    rwa [sw_sw] at this
theorem gj_of (m w : Nat) (A : Nat → Nat → F) : ∀ n, Of w m m (gj m A n).1 A ∧ Of w m m A (gj m A n).1 := by
  intro n
  induction n with
  | zero => exact ⟨Of.refl w m A, Of.refl w m A⟩
  | succ n ih =>
    have := turn_of (m := m) (w := w) (c := n) (s := gj m A n)
    exact ⟨this.1.trans ih.1, ih.2.trans this.2⟩
/-! ### the reduced form is the only one -/
section
variable {m w : Nat} {A : Nat → Nat → F} {ps : List Nat}
end
/-! ### determinants -/
/-- The determinant behind the first columns' turns, and that of the product with any matrix. -/
theorem turn_det {n c : Nat} {s : (Nat → Nat → F) × List Nat × F} : ∃ d : F, (s.2.1.length < (turn n s c).2.1.length → (turn n s c).2.2 = s.2.2 * d) ∧ ∀ B : Nat → Nat → F, det n (mm n s.1 B) = d * det n (mm n (turn n s c).1 B) := by
  unfold turn
  cases hf : fp s.1 c n n s.2.1.length with
  | none => exact ⟨1, fun h => by simp at h, fun B => (one_mul _).symm⟩
  | some r =>
    obtain ⟨h1, h2, h3, -⟩ := fp_some hf
    refine ⟨s.1 r c, fun _ => rfl, fun B => ?_⟩
    obtain ⟨A, ps, d⟩ := s
    simp only at h1 h2 h3 hf ⊢
    have ht : ps.length < n := by omega
    generalize ps.length = t at *
    -- swap
    have e1 : det n (mm n A B) = det n (mm n (sw A t r) B) := by
      rw [← det_swap ht h2 (mm n A B)]
      apply det_congr; intro i j _ _
      unfold mm sw
      by_cases c1 : i = t
      · rw [if_pos c1, if_pos c1]
      · rw [if_neg c1, if_neg c1]
        by_cases c2 : i = r
        · rw [if_pos c2, if_pos c2]
        · rw [if_neg c2, if_neg c2]
    have hp : sw A t r t c = A r c := by unfold sw; rw [if_pos rfl]
    generalize sw A t r = C at e1 hp ⊢
    -- scale
    have e2 : A r c * det n (mm n (scl C t c) B) = det n (mm n C B) := by
      rw [← det_scale ht (A r c) (mm n (scl C t c) B)]
      apply det_congr; intro i j _ _
      by_cases c1 : i = t
      · subst c1
        rw [if_pos rfl]
        show A r c * vm n (scl C i c i) B j = vm n (C i) B j
        rw [← vm_mul]
        apply vm_congr; intro k _
        unfold scl
        rw [if_pos rfl, hp, mul_iv_cancel h3]
      · rw [if_neg c1]
        show vm n (scl C t c i) B j = vm n (C i) B j
        unfold scl; rw [if_neg c1]
    generalize scl C t c = E at e2 ⊢
    -- clear, row by row
    have e3 : ∀ k, k ≤ n → det n (mm n (fun a => if a < k then clr E t c a else E a) B) = det n (mm n E B) := by
      intro k
      induction k with
      | zero => intro _; apply det_congr; intro i j _ _; simp only [Nat.not_lt_zero, if_false]
      | succ k ih =>
        intro hk
        rw [← ih (by omega)]
        by_cases e : k = t
        · subst e
          apply det_congr; intro i j _ _
          have : (if i < k + 1 then clr E k c i else E i) = (if i < k then clr E k c i else E i) := by
            by_cases c1 : i < k
            · rw [if_pos (by omega), if_pos c1]
            · rw [if_neg c1]
              by_cases c2 : i = k
              · subst c2; rw [if_pos (by omega)]; unfold clr; rw [if_pos rfl]
              · rw [if_neg (by omega)]
          show vm n (if i < k + 1 then clr E k c i else E i) B j = vm n (if i < k then clr E k c i else E i) B j
          rw [this]
        · rw [← det_add_row (i := k) (j := t) (by omega) ht e (E k c) (mm n (fun a => if a < k then clr E t c a else E a) B)]
          apply det_congr; intro i j _ _
          by_cases c1 : i = k
          · subst c1
            rw [if_pos rfl]
            show vm n (if i < i + 1 then clr E t c i else E i) B j = vm n (if i < i then clr E t c i else E i) B j + E i c * vm n (if t < i then clr E t c t else E t) B j
            have ht' : (if t < i then clr E t c t else E t) = E t := by
              by_cases c2 : t < i
              · rw [if_pos c2]; unfold clr; rw [if_pos rfl]
              · rw [if_neg c2]
            rw [if_pos (by omega), if_neg (by omega), ht', ← vm_mul, ← vm_add]
            apply vm_congr; intro l _
            unfold clr; rw [if_neg e]
          · rw [if_neg c1]
            show vm n (if i < k + 1 then clr E t c i else E i) B j = vm n (if i < k then clr E t c i else E i) B j
            by_cases c2 : i < k
            · rw [if_pos (by omega), if_pos c2]
            · rw [if_neg (by omega), if_neg c2]
    rw [e1, ← e2]
    congr 1
    rw [← e3 n (Nat.le_refl _)]
    apply det_congr; intro i j hi _
    show vm n (if i < n then clr E t c i else E i) B j = vm n (clr E t c i) B j
    rw [if_pos hi]
theorem turn_len {m c : Nat} {s : (Nat → Nat → F) × List Nat × F} : (turn m s c).2.1.length = s.2.1.length + 1 ∨ ((turn m s c).2.1.length = s.2.1.length ∧ (turn m s c).2.2 = 0) := by
  unfold turn
  cases fp s.1 c m m s.2.1.length with
  | none => right; exact ⟨rfl, rfl⟩
  | some r => left; simp
theorem gj_len (m : Nat) (A : Nat → Nat → F) (n : Nat) : (gj m A n).2.1.length ≤ n := by
  induction n with
  | zero => exact Nat.le_refl _
  | succ n ih =>
    rw [gj]
    rcases turn_len (m := m) (c := n) (s := gj m A n) with h | ⟨h, -⟩ <;> omega
theorem gj_det (n : Nat) (A : Nat → Nat → F) : ∀ c, ∃ d : F, ((gj n A c).2.1.length = c → (gj n A c).2.2 = d) ∧ ((gj n A c).2.1.length ≠ c → (gj n A c).2.2 = 0) ∧ ∀ B : Nat → Nat → F, det n (mm n A B) = d * det n (mm n (gj n A c).1 B) := by
  intro c
  induction c with
  | zero => exact ⟨1, fun _ => rfl, fun h => absurd rfl h, fun B => (one_mul _).symm⟩
  | succ c ih =>
    obtain ⟨d, h1, h2, h3⟩ := ih
    obtain ⟨e, k1, k2⟩ := turn_det (n := n) (c := c) (s := gj n A c)
    have hl := gj_len n A c
    refine ⟨d * e, fun h => ?_, fun h => ?_, fun B => ?_⟩
    · rw [gj] at h ⊢
      rcases turn_len (m := n) (c := c) (s := gj n A c) with t | ⟨t, -⟩
      · rw [k1 (by omega), h1 (by omega)]
      · omega
    · rw [gj] at h ⊢
      rcases turn_len (m := n) (c := c) (s := gj n A c) with t | ⟨-, t⟩
      · rw [k1 (by omega), h2 (by omega), zero_mul]
      · exact t
    · rw [h3 B, k2 B, Fld.mul_assoc]; rfl
/-- All columns have a pivot: the reduced form is the unit matrix. -/
theorem Red.unit {n m : Nat} {A : Nat → Nat → F} {ps : List Nat} {w : Nat} (h : Red m w n A ps) (hl : ps.length = n) : ∀ i j, i < n → j < n → A i j = one i j := by
  have hp : ∀ i (hi : i < ps.length), ps[i] = i := by
    have hlow : ∀ i (hi : i < ps.length), i ≤ ps[i] := by
      intro i
      induction i with
      | zero => intro _; omega
      | succ i ih =>
        intro hi
        have := ih (by omega)
        have := List.pairwise_iff_getElem.1 h.rise i (i + 1) (by omega) hi (by omega)
        omega
    have hup : ∀ k i (hi : i < ps.length), ps.length = i + 1 + k → ps[i] + k < n := by
      intro k
      induction k with
      | zero => intro i hi _; exact h.below _ (List.getElem_mem hi)
      | succ k ih =>
        intro i hi e
        have := ih (i + 1) (by omega) (by omega)
        have := List.pairwise_iff_getElem.1 h.rise i (i + 1) hi (by omega) (by omega)
        omega
    intro i hi
    have := hlow i hi
    have := hup (ps.length - i - 1) i hi (by omega)
    omega
  intro i j hi hj
  unfold one
  by_cases e : i = j
  · subst e
    rw [if_pos rfl]
    have := h.lead i (by omega)
    rwa [hp i (by omega)] at this
  · rw [if_neg e]
    have := h.clean j (by omega) i (by have := h.le; omega) e
    rwa [hp j (by omega)] at this
/-- The determinant of a product. -/
theorem gj_det_eq (n : Nat) (A : Nat → Nat → F) : (gj n A n).2.2 = det n A ∧ (∀ B : Nat → Nat → F, det n (mm n A B) = det n A * det n B) := by
  obtain ⟨d, h1, h2, h3⟩ := gj_det n A n
  have hr := gj_red n n A n
  have hA : det n (mm n A one) = det n A := det_congr (fun i j _ hj => mm_one A i hj)
  by_cases hl : (gj n A n).2.1.length = n
  · have hu := hr.unit hl
    have hB : ∀ B : Nat → Nat → F, det n (mm n (gj n A n).1 B) = det n B := by
      intro B
      apply det_congr; intro i j hi hj
      show vm n ((gj n A n).1 i) B j = _
      rw [vm_congr (w := one i) (fun k hk => hu i k hi hk)]
      exact one_mm B hi j
    have hd : det n A = d := by rw [← hA, h3, hB, det_one, Fld.mul_one]
    refine ⟨by rw [h1 hl, hd], fun B => ?_⟩
    rw [h3, hB, hd]
  · have hle := gj_len n A n
    have hz : ∀ B : Nat → Nat → F, det n (mm n (gj n A n).1 B) = 0 := by
      intro B
      apply det_zero_row (i := n - 1) (by omega)
      intro j _
      exact sm_none (fun k hk => by rw [hr.rest (n - 1) k (by omega) (by omega) hk, zero_mul])
    have hd : det n A = 0 := by rw [← hA, h3, hz, mul_zero]
    refine ⟨by rw [h2 hl, hd], fun B => ?_⟩
    rw [h3, hz, hd, mul_zero, zero_mul]
theorem det_mm (n : Nat) (A B : Nat → Nat → F) : det n (mm n A B) = det n A * det n B := (gj_det_eq n A).2 B
theorem gj_full (n : Nat) (A : Nat → Nat → F) : (gj n A n).2.1.length = n ↔ det n A ≠ 0 := by
  obtain ⟨d, h1, h2, h3⟩ := gj_det n A n
  have e := (gj_det_eq n A).1
  have hr := gj_red n n A n
  constructor
  · intro hl
    -- A's rows make the unit matrix
    obtain ⟨X, hX⟩ := (gj_of n n A n).1
    intro h0
    have : det n (mm n X A) = 1 := by
      rw [← det_one n]
      apply det_congr; intro i j hi hj
      rw [← hX i j hi hj, hr.unit hl i j hi hj]
    rw [det_mm, h0, mul_zero] at this
    exact Fld.one_ne this.symm
  · intro h0
    by_cases hl : (gj n A n).2.1.length = n
    · exact hl
    · rw [h2 hl] at e
      exact absurd e.symm h0
/-- A matrix whose determinant is not 0 has an inverse. -/
theorem inv_of_det {n : Nat} {A : Nat → Nat → F} (h : det n A ≠ 0) : ∃ X : Nat → Nat → F, (∀ i j, i < n → j < n → mm n X A i j = one i j) ∧ ∀ i j, i < n → j < n → mm n A X i j = one i j := by
  have key : ∀ A : Nat → Nat → F, det n A ≠ 0 → ∃ X : Nat → Nat → F, ∀ i j, i < n → j < n → mm n X A i j = one i j := by
    intro A h
    have hl := (gj_full n A).2 h
    have hr := gj_red n n A n
    obtain ⟨X, hX⟩ := (gj_of n n A n).1
    exact ⟨X, fun i j hi hj => by rw [← hX i j hi hj, hr.unit hl i j hi hj]⟩
  obtain ⟨X, hX⟩ := key A h
  have hdX : det n X ≠ 0 := by
    intro h0
    have : det n (mm n X A) = 1 := by rw [← det_one n]; exact det_congr hX
    rw [det_mm, h0, zero_mul] at this
    exact Fld.one_ne this.symm
  obtain ⟨Y, hY⟩ := key X hdX
  refine ⟨X, hX, fun i j hi hj => ?_⟩
  -- Y = Y X A = A, so A X = Y X = 1
  have hYA : ∀ i j, i < n → j < n → Y i j = A i j := by
    intro i j hi hj
    have e1 : mm n Y (mm n X A) i j = Y i j := by
      show sm n (fun k => Y i k * mm n X A k j) = _
      rw [sm_congr (fun k hk => by rw [hX k j hk hj])]
      exact mm_one Y i hj
    rw [← e1, ← mm_assoc]
    show sm n (fun k => mm n Y X i k * A k j) = _
    rw [sm_congr (fun k hk => by rw [hY i k hi hk])]
    exact one_mm A hi j
  rw [← hY i j hi hj]
  exact sm_congr (fun k hk => by rw [hYA i k hi hk])
theorem det_of_inv {n : Nat} {A X : Nat → Nat → F} (h : ∀ i j, i < n → j < n → mm n X A i j = one i j) : det n A ≠ 0 := by
  intro h0
  have : det n (mm n X A) = 1 := by rw [← det_one n]; exact det_congr h
  rw [det_mm, h0, mul_zero] at this
  exact Fld.one_ne this.symm
end LA
end
section
/- The generators of the two families over a field: any k of their rows make all others, by Lagrange's factors. -/
namespace LA
set_option linter.unusedVariables false
set_option linter.unusedSectionVars false
open Fld
variable {F : Type} [Fld F]
/-- The weight of shard s. -/
def wt (cau : Bool) (pt : Nat → F) (k s : Nat) : F := if cau then top k pt s (pt s) else 1
/-- The generator. -/
def gm (cau : Bool) (pt : Nat → F) (k s i : Nat) : F := if s < k then one s i else if cau then iv (pt s + pt i) else lag k pt i (pt s)
/-- The decoder's rows. -/
def dm (cau : Bool) (pt : Nat → F) (k : Nat) (us : Nat → Nat) (s i : Nat) : F := lag k (fun i => pt (us i)) i (pt s) * wt cau pt k (us i) * iv (wt cau pt k s)
section
variable {pt : Nat → F} {n k : Nat} (hp : ∀ i j, i < n → j < n → pt i = pt j → i = j) (hk : k ≤ n)
include hp hk
theorem lag_unit {c s : Nat} (hc : c < k) (hs : s < k) : lag k pt c (pt s) = one s c := by
  unfold lag one
  by_cases e : s = c
  · subst e
    rw [if_pos rfl, Fld.mul_iv _ (top_ne (fun i j hi hj => hp i j (by omega) (by omega)) hs)]
  · rw [if_neg e, top_at hs e, zero_mul]
end
/-- Vandermonde's square has an inverse. -/
theorem vdm_ne {pt : Nat → F} {k : Nat} (hp : ∀ i j, i < k → j < k → pt i = pt j → i = j) : det k (fun s c => px (pt s) c) ≠ 0 := by
  have key : ∀ i, i < k → ∃ a : Nat → F, ∀ x, lag k pt i x = ev k a x := fun i hi => by
    have ht := top_isP pt i k
    rw [if_pos hi] at ht
    exact ht.mul_right _
  have h : det k (fun c s => px (pt s) c) ≠ 0 := by
    refine det_of_inv (X := fun i => if h : i < k then Classical.choose (key i h) else fun _ => 0) (fun i s hi hs => ?_)
    show sm k (fun c => (if h : i < k then Classical.choose (key i h) else fun _ => 0) c * px (pt s) c) = _
    rw [dif_pos hi]
    have := Classical.choose_spec (key i hi) (pt s)
    unfold ev at this
    refine this.symm.trans ?_
    rw [lag_unit hp (Nat.le_refl _) hi hs]
    unfold one
    by_cases e : s = i
    · rw [if_pos e, if_pos e.symm]
    · rw [if_neg e, if_neg (fun h => e h.symm)]
  intro h0
  exact h (by rw [← h0]; exact det_transpose k (fun s c => px (pt s) c))
end LA
end
