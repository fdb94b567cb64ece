/- Polynomials over GF(2) as numbers: product, division, greatest common divisor, irreducible polynomials, Fermat. Plain Lean. -/
import Derived.Test.YtidogckochpbgaaAx0
import Derived.Test.YtidogckochpbgaaAx1

set_option linter.unusedVariables false
namespace GP

theorem two_xor (x y : Nat) : 2 * (x ^^^ y) = (2 * x) ^^^ (2 * y) := by
  have := Nat.shiftLeft_xor_distrib (i := 1) (a := x) (b := y)
  simpa [Nat.shiftLeft_eq, Nat.mul_comm] using this

theorem xor_mod2 (x y : Nat) : (x ^^^ y) % 2 = (x % 2) ^^^ (y % 2) := by
  have := Nat.xor_mod_two_pow (a := x) (b := y) (n := 1)
  simpa using this

theorem xor_left_comm (a b c : Nat) : a ^^^ (b ^^^ c) = b ^^^ (a ^^^ c) := by
  rw [← Nat.xor_assoc, Nat.xor_comm a b, Nat.xor_assoc]
theorem xor_cancel_left (a b : Nat) : a ^^^ (a ^^^ b) = b := by
  rw [← Nat.xor_assoc, Nat.xor_self, Nat.zero_xor]
theorem xor_cancel_right (a b : Nat) : (b ^^^ a) ^^^ a = b := by
  rw [Nat.xor_assoc, Nat.xor_self, Nat.xor_zero]
theorem xor_eq_zero {a b : Nat} : a ^^^ b = 0 ↔ a = b := by
  constructor
  · intro h
    have := xor_cancel_left a b
    rw [h, Nat.xor_zero] at this
    exact this
  · rintro rfl; exact Nat.xor_self a
theorem xor_eq_iff {a b c : Nat} : a ^^^ b = c ↔ a = c ^^^ b := by
  constructor
  · rintro rfl; rw [xor_cancel_right]
  · rintro rfl; rw [xor_cancel_right]

/-- The product of two polynomials over GF(2), each as the bits of a number. -/
def cl (a b : Nat) : Nat := if h : b = 0 then 0 else (if b % 2 = 1 then a else 0) ^^^ (2 * cl a (b / 2))
termination_by b
decreasing_by omega

theorem cl_zero (a : Nat) : cl a 0 = 0 := by rw [cl]; simp
theorem cl_step (a b : Nat) : cl a b = (if b % 2 = 1 then a else 0) ^^^ (2 * cl a (b / 2)) := by
  by_cases h : b = 0
  · subst h; simp [cl_zero]
  · rw [cl]; simp [h]
theorem cl_bit0 (a b : Nat) : cl a (2 * b) = 2 * cl a b := by
  rw [cl_step]
  rw [if_neg (by omega), Nat.zero_xor, show 2 * b / 2 = b from by omega]
theorem cl_bit1 (a b : Nat) : cl a (2 * b + 1) = a ^^^ (2 * cl a b) := by
  rw [cl_step]
  rw [if_pos (by omega), show (2 * b + 1) / 2 = b from by omega]
theorem cl_one (a : Nat) : cl a 1 = a := by
  have := cl_bit1 a 0
  simpa [cl_zero] using this

/-- Induction along the bits. -/
theorem bits_ind {P : Nat → Prop} (h0 : P 0) (h1 : ∀ b, b ≠ 0 → P (b / 2) → P b) (b : Nat) : P b := by
  induction b using Nat.strongRecOn with
  | _ b ih =>
    by_cases h : b = 0
    · subst h; exact h0
    · exact h1 b h (ih _ (by omega))

theorem zero_cl (b : Nat) : cl 0 b = 0 := by
  induction b using bits_ind with
  | h0 => exact cl_zero 0
  | h1 b h ih => rw [cl_step, ih]; simp
theorem cl_xor_left (a c b : Nat) : cl (a ^^^ c) b = cl a b ^^^ cl c b := by
  induction b using bits_ind with
  | h0 => simp [cl_zero]
  | h1 b h ih =>
    rw [cl_step, cl_step a b, cl_step c b, ih, two_xor]
    by_cases hb : b % 2 = 1
    · simp only [hb, if_true]; ac_rfl
    · simp only [hb, if_false, Nat.zero_xor]
theorem half_xor (a b : Nat) : (a ^^^ b) / 2 = a / 2 ^^^ b / 2 := Nat.xor_div_two
theorem cl_xor_right (a : Nat) : ∀ b c : Nat, cl a (b ^^^ c) = cl a b ^^^ cl a c := by
  intro b
  induction b using bits_ind with
  | h0 => intro c; simp [cl_zero]
  | h1 b h ih =>
    intro c
    rw [cl_step, cl_step a b, cl_step a c, half_xor, ih, two_xor, xor_mod2]
    rcases Nat.mod_two_eq_zero_or_one b with hb | hb <;> rcases Nat.mod_two_eq_zero_or_one c with hc | hc <;> rw [hb, hc] <;> simp
    · ac_rfl
    · ac_rfl
    · have : ∀ x y : Nat, x ^^^ y = (a ^^^ x) ^^^ (a ^^^ y) := by
        intro x y
        rw [Nat.xor_comm a x, Nat.xor_assoc, xor_cancel_left]
      exact this _ _
theorem two_cl (a b : Nat) : cl (2 * a) b = 2 * cl a b := by
  induction b using bits_ind with
  | h0 => simp [cl_zero]
  | h1 b h ih =>
    rw [cl_step, cl_step a b, ih, two_xor]
    by_cases hb : b % 2 = 1 <;> simp [hb]
theorem one_cl (b : Nat) : cl 1 b = b := by
  induction b using bits_ind with
  | h0 => exact cl_zero 1
  | h1 b h ih =>
    rw [cl_step, ih]
    have e : b = 2 * (b / 2) + b % 2 := by omega
    rcases Nat.mod_two_eq_zero_or_one b with hb | hb
    · rw [if_neg (by omega), Nat.zero_xor]; omega
    · rw [if_pos hb]
      have : 1 ^^^ (2 * (b / 2)) = 2 * (b / 2) + 1 := by
        have h2 := Nat.two_pow_add_eq_or_of_lt (i := 1) (b := 1) (by decide) (b / 2)
        apply Nat.eq_of_testBit_eq
        intro i
        cases i with
        | zero => simp
        | succ i => simp [Nat.testBit_succ]; rw [show (2 * (b / 2) + 1) / 2 = b / 2 from by omega, Nat.xor_div_two]; simp
      omega
theorem cl_comm (a : Nat) : ∀ b : Nat, cl a b = cl b a := by
  induction a using bits_ind with
  | h0 => intro b; rw [zero_cl, cl_zero]
  | h1 a h ih =>
    intro b
    rw [cl_step b a, ← ih b]
    have e : a = (a % 2) ^^^ (2 * (a / 2)) := by
      have := one_cl a
      rw [cl_step, one_cl] at this
      rcases Nat.mod_two_eq_zero_or_one a with ha | ha <;> rw [ha] at this ⊢ <;> simp at this ⊢ <;> exact this.symm
    have e2 : cl a b = cl (a % 2) b ^^^ cl (2 * (a / 2)) b := by
      rw [← cl_xor_left, ← e]
    rw [e2, two_cl]
    rcases Nat.mod_two_eq_zero_or_one a with ha | ha <;> rw [ha] <;> simp [zero_cl, one_cl]
theorem cl_assoc (a b : Nat) : ∀ c : Nat, cl (cl a b) c = cl a (cl b c) := by
  intro c
  induction c using bits_ind with
  | h0 => simp [cl_zero]
  | h1 c h ih =>
    rw [cl_step (cl a b) c, cl_step b c, cl_xor_right, ih, cl_bit0]
    by_cases hc : c % 2 = 1 <;> simp [hc, cl_zero]
theorem cl_left_comm (a b c : Nat) : cl a (cl b c) = cl b (cl a c) := by
  rw [← cl_assoc, cl_comm a b, cl_assoc]
instance : Std.Associative cl := ⟨fun a b c => cl_assoc a b c⟩
instance : Std.Commutative cl := ⟨fun a b => cl_comm a b⟩
theorem cl_pow (a s : Nat) : cl a (2 ^ s) = a * 2 ^ s := by
  induction s with
  | zero => simp [cl_one]
  | succ s ih => rw [Nat.pow_succ, Nat.mul_comm (2 ^ s) 2, cl_bit0, ih]; ac_rfl
theorem pow_cl (a s : Nat) : cl (2 ^ s) a = a * 2 ^ s := by rw [cl_comm, cl_pow]

/-- How many bits a number has: the degree and one. -/
def bl (x : Nat) : Nat := if x = 0 then 0 else x.log2 + 1
theorem bl_zero : bl 0 = 0 := rfl
theorem bl_le {x n : Nat} : bl x ≤ n ↔ x < 2 ^ n := by
  unfold bl
  by_cases h : x = 0
  · subst h; simp [Nat.two_pow_pos]
  · rw [if_neg h, ← Nat.log2_lt h]; omega
theorem lt_bl {x n : Nat} : n < bl x ↔ 2 ^ n ≤ x := by
  have := @bl_le x n
  omega
theorem lt_pow_bl (x : Nat) : x < 2 ^ bl x := bl_le.1 (Nat.le_refl _)
theorem bl_eq_zero {x : Nat} : bl x = 0 ↔ x = 0 := by
  have := @bl_le x 0
  rw [Nat.pow_zero] at this
  omega
theorem bl_pos {x : Nat} : 0 < bl x ↔ x ≠ 0 := by
  have := @bl_eq_zero x
  omega
theorem bl_eq {x n : Nat} (h : 2 ^ n ≤ x) (h' : x < 2 ^ (n + 1)) : bl x = n + 1 := by
  have := lt_bl.2 h
  have := bl_le.2 h'
  omega
theorem bl_one : bl 1 = 1 := bl_eq (n := 0) (by decide) (by decide)
theorem bl_ge {x : Nat} (h : x ≠ 0) : 2 ^ (bl x - 1) ≤ x := by
  have := bl_pos.2 h
  exact lt_bl.1 (by omega)
theorem bl_mono {x y : Nat} (h : x ≤ y) : bl x ≤ bl y := bl_le.2 (Nat.lt_of_le_of_lt h (lt_pow_bl y))
theorem bl_xor_le {x y n : Nat} (hx : bl x ≤ n) (hy : bl y ≤ n) : bl (x ^^^ y) ≤ n :=
  bl_le.2 (Nat.xor_lt_two_pow (bl_le.1 hx) (bl_le.1 hy))
theorem top_bit {x n : Nat} (h : bl x = n + 1) : x.testBit n = true := by
  have h1 : 2 ^ n ≤ x := lt_bl.1 (by omega)
  have h2 : x < 2 ^ (n + 1) := bl_le.1 (by omega)
  rw [Nat.testBit_eq_decide_div_mod_eq]
  have : x / 2 ^ n = 1 := by
    apply Nat.div_eq_of_lt_le <;> rw [Nat.pow_succ] at * <;> omega
  simp [this]
theorem bl_of_bit {x n : Nat} (h : x.testBit n = true) : n < bl x := lt_bl.2 (Nat.ge_two_pow_of_testBit h)
theorem bit_of_bl {x n : Nat} (h : bl x ≤ n) : x.testBit n = false := Nat.testBit_lt_two_pow (bl_le.1 h)
theorem bl_xor_of_lt {x y : Nat} (h : bl y < bl x) : bl (x ^^^ y) = bl x := by
  obtain ⟨n, hn⟩ : ∃ n, bl x = n + 1 := ⟨bl x - 1, by omega⟩
  have h1 : (x ^^^ y).testBit n = true := by
    rw [Nat.testBit_xor, top_bit hn, bit_of_bl (by omega)]; rfl
  have := bl_of_bit h1
  have := bl_xor_le (x := x) (y := y) (n := bl x) (Nat.le_refl _) (by omega)
  omega
theorem bl_xor_lt {x y : Nat} (h : bl x = bl y) (hx : x ≠ 0) : bl (x ^^^ y) < bl x := by
  obtain ⟨n, hn⟩ : ∃ n, bl x = n + 1 := ⟨bl x - 1, by have := bl_pos.2 hx; omega⟩
  have h1 : (x ^^^ y).testBit n = false := by
    rw [Nat.testBit_xor, top_bit hn, top_bit (h ▸ hn)]; rfl
  have h2 := bl_xor_le (x := x) (y := y) (n := bl x) (Nat.le_refl _) (by omega)
  by_cases h3 : bl (x ^^^ y) = n + 1
  · rw [top_bit h3] at h1; cases h1
  · omega
theorem bl_shift {x : Nat} (h : x ≠ 0) (s : Nat) : bl (x * 2 ^ s) = bl x + s := by
  have h0 := bl_pos.2 h
  have h1 := bl_ge h
  have h2 := lt_pow_bl x
  rw [show bl x + s = (bl x - 1 + s) + 1 from by omega]
  apply bl_eq
  · rw [Nat.pow_add]; exact Nat.mul_le_mul_right _ h1
  · rw [show bl x - 1 + s + 1 = bl x + s from by omega, Nat.pow_add]
    exact Nat.mul_lt_mul_of_pos_right h2 (Nat.two_pow_pos s)
theorem bl_double {x : Nat} (h : x ≠ 0) : bl (2 * x) = bl x + 1 := by
  have := bl_shift h 1
  rwa [Nat.pow_one, Nat.mul_comm] at this
theorem bl_half (x : Nat) : bl (x / 2) = bl x - 1 := by
  by_cases h : x / 2 = 0
  · rw [h]
    have : x < 2 ^ 1 := by omega
    have := bl_le.2 this
    rw [bl_zero]; omega
  · have e := bl_double h
    have h1 : bl (2 * (x / 2)) ≤ bl x := bl_mono (by omega)
    have h2 : bl x ≤ bl (2 * (x / 2)) := by
      rw [e]
      apply bl_le.2
      have := lt_pow_bl (x / 2)
      rw [Nat.pow_succ]; omega
    omega
theorem bl_cl {a b : Nat} (ha : a ≠ 0) : b ≠ 0 → bl (cl a b) + 1 = bl a + bl b := by
  induction b using bits_ind with
  | h0 => intro h; exact absurd rfl h
  | h1 b hb ih =>
    intro _
    rw [cl_step]
    by_cases h : b / 2 = 0
    · have hb1 : b = 1 := by omega
      subst hb1
      rw [show (1 : Nat) / 2 = 0 from rfl, cl_zero, bl_one]; simp
    · have e := ih h
      have hp := bl_pos.2 ha
      have hc : cl a (b / 2) ≠ 0 := bl_pos.1 (by have := bl_pos.2 h; omega)
      have e2 := bl_double hc
      have e3 := bl_half b
      have hb2 := bl_pos.2 hb
      have hb3 := bl_pos.2 h
      by_cases ho : b % 2 = 1
      · rw [if_pos ho, Nat.xor_comm, bl_xor_of_lt (by omega)]; omega
      · rw [if_neg ho, Nat.zero_xor]; omega
theorem cl_ne {a b : Nat} (ha : a ≠ 0) (hb : b ≠ 0) : cl a b ≠ 0 := by
  apply bl_pos.1
  have := bl_cl ha hb
  have := bl_pos.2 ha
  have := bl_pos.2 hb
  omega
theorem cl_eq_zero {a b : Nat} : cl a b = 0 ↔ a = 0 ∨ b = 0 := by
  constructor
  · intro h
    by_cases ha : a = 0
    · exact .inl ha
    · by_cases hb : b = 0
      · exact .inr hb
      · exact absurd h (cl_ne ha hb)
  · rintro (rfl | rfl)
    · exact zero_cl b
    · exact cl_zero a
theorem cl_cancel {a b c : Nat} (ha : a ≠ 0) (h : cl a b = cl a c) : b = c := by
  have : cl a (b ^^^ c) = 0 := by rw [cl_xor_right, h, Nat.xor_self]
  rcases cl_eq_zero.1 this with h | h
  · exact absurd h ha
  · exact xor_eq_zero.1 h
/-- Quotient and remainder. -/
def pdm (a b : Nat) : Nat × Nat :=
  if h : b = 0 ∨ bl a < bl b then (0, a)
  else ((pdm (a ^^^ b * 2 ^ (bl a - bl b)) b).1 ^^^ 2 ^ (bl a - bl b), (pdm (a ^^^ b * 2 ^ (bl a - bl b)) b).2)
termination_by bl a
decreasing_by
  all_goals
    have hb : b ≠ 0 := fun e => h (.inl e)
    have ha : a ≠ 0 := bl_pos.1 (by have := bl_pos.2 hb; have hl : ¬ bl a < bl b := fun e => h (.inr e); omega)
    exact bl_xor_lt (by have hl : ¬ bl a < bl b := fun e => h (.inr e); have e := bl_shift hb (bl a - bl b); omega) ha
def pquo (a b : Nat) : Nat := (pdm a b).1
def pmod (a b : Nat) : Nat := (pdm a b).2
theorem pdm_small {a b : Nat} (h : bl a < bl b) : pdm a b = (0, a) := by rw [pdm]; simp [h]
theorem pdm_zero (a : Nat) : pdm a 0 = (0, a) := by rw [pdm]; simp
theorem pdm_step {a b : Nat} (hb : b ≠ 0) (h : bl b ≤ bl a) :
    pdm a b = ((pdm (a ^^^ b * 2 ^ (bl a - bl b)) b).1 ^^^ 2 ^ (bl a - bl b), (pdm (a ^^^ b * 2 ^ (bl a - bl b)) b).2) := by
  rw [pdm, dif_neg (by omega)]
theorem step_lt {a b : Nat} (hb : b ≠ 0) (h : bl b ≤ bl a) : bl (a ^^^ b * 2 ^ (bl a - bl b)) < bl a := by
  have e := bl_shift hb (bl a - bl b)
  have ha : a ≠ 0 := bl_pos.1 (by have := bl_pos.2 hb; omega)
  exact bl_xor_lt (by omega) ha
theorem pdm_spec {b : Nat} (hb : b ≠ 0) : ∀ (n a : Nat), bl a ≤ n → a = cl (pquo a b) b ^^^ pmod a b ∧ bl (pmod a b) < bl b := by
  intro n
  induction n with
  | zero =>
    intro a ha
    have : bl a < bl b := by have := bl_pos.2 hb; omega
    unfold pquo pmod
    rw [pdm_small this, zero_cl, Nat.zero_xor]
    exact ⟨rfl, this⟩
  | succ n ih =>
    intro a ha
    by_cases h : bl a < bl b
    · unfold pquo pmod
      rw [pdm_small h, zero_cl, Nat.zero_xor]
      exact ⟨rfl, h⟩
    · have hl := step_lt hb (Nat.le_of_not_lt h)
      obtain ⟨e1, e2⟩ := ih (a ^^^ b * 2 ^ (bl a - bl b)) (by omega)
      have hs := pdm_step hb (Nat.le_of_not_lt h)
      have hq : pquo a b = pquo (a ^^^ b * 2 ^ (bl a - bl b)) b ^^^ 2 ^ (bl a - bl b) := by unfold pquo; rw [hs]
      have hr : pmod a b = pmod (a ^^^ b * 2 ^ (bl a - bl b)) b := by unfold pmod; rw [hs]
      rw [hq, hr]
      refine ⟨?_, e2⟩
      rw [cl_xor_left, pow_cl]
      rw [Nat.xor_assoc, Nat.xor_comm (b * 2 ^ (bl a - bl b)), ← Nat.xor_assoc, ← e1, xor_cancel_right]
theorem div_eq {b : Nat} (hb : b ≠ 0) (a : Nat) : a = cl (pquo a b) b ^^^ pmod a b := (pdm_spec hb _ a (Nat.le_refl _)).1
theorem pmod_lt {b : Nat} (hb : b ≠ 0) (a : Nat) : bl (pmod a b) < bl b := (pdm_spec hb _ a (Nat.le_refl _)).2
theorem div_unique {a b q r : Nat} (hb : b ≠ 0) (h : a = cl q b ^^^ r) (hr : bl r < bl b) : q = pquo a b ∧ r = pmod a b := by
  have e := div_eq hb a
  have l := pmod_lt hb a
  have e2 : cl (q ^^^ pquo a b) b = r ^^^ pmod a b := by
    have e3 : cl q b ^^^ r = cl (pquo a b) b ^^^ pmod a b := h ▸ e
    have e4 : (cl q b ^^^ r) ^^^ (cl (pquo a b) b ^^^ r) = (cl (pquo a b) b ^^^ pmod a b) ^^^ (cl (pquo a b) b ^^^ r) := by rw [e3]
    rw [cl_xor_left]
    calc cl q b ^^^ cl (pquo a b) b = (cl q b ^^^ r) ^^^ (cl (pquo a b) b ^^^ r) := by
          rw [Nat.xor_assoc, xor_left_comm r, Nat.xor_self, Nat.xor_zero]
      _ = (cl (pquo a b) b ^^^ pmod a b) ^^^ (cl (pquo a b) b ^^^ r) := e4
      _ = r ^^^ pmod a b := by
          rw [Nat.xor_assoc, xor_left_comm (pmod a b), xor_cancel_left, Nat.xor_comm]
  have hq : q ^^^ pquo a b = 0 := by
    by_cases hz : q ^^^ pquo a b = 0
    · exact hz
    · have h1 := bl_cl hz hb
      have h2 := bl_pos.2 hz
      rw [e2] at h1
      have h3 := bl_xor_le (x := r) (y := pmod a b) (n := bl b - 1) (by omega) (by omega)
      omega
  rw [hq, zero_cl] at e2
  exact ⟨xor_eq_zero.1 hq, xor_eq_zero.1 e2.symm⟩

/-- d divides a. -/
def Dv (d a : Nat) : Prop := ∃ q, a = cl q d
theorem Dv.refl (a : Nat) : Dv a a := ⟨1, (one_cl a).symm⟩
theorem Dv.zero (d : Nat) : Dv d 0 := ⟨0, (zero_cl d).symm⟩
theorem Dv.one (a : Nat) : Dv 1 a := ⟨a, (cl_one a).symm⟩
theorem Dv.xor {d a b : Nat} (h : Dv d a) (k : Dv d b) : Dv d (a ^^^ b) := by
  obtain ⟨q, rfl⟩ := h
  obtain ⟨r, rfl⟩ := k
  exact ⟨q ^^^ r, (cl_xor_left q r d).symm⟩
theorem Dv.mul_left {d a : Nat} (h : Dv d a) (c : Nat) : Dv d (cl c a) := by
  obtain ⟨q, rfl⟩ := h
  exact ⟨cl c q, (cl_assoc c q d).symm⟩
theorem Dv.mul_right {d a : Nat} (h : Dv d a) (c : Nat) : Dv d (cl a c) := by
  rw [cl_comm]; exact h.mul_left c
theorem Dv.trans {a b c : Nat} (h : Dv a b) (k : Dv b c) : Dv a c := by
  obtain ⟨q, rfl⟩ := k
  exact h.mul_left q
theorem Dv.bl_le {d a : Nat} (h : Dv d a) (ha : a ≠ 0) : bl d ≤ bl a := by
  obtain ⟨q, rfl⟩ := h
  have hq : q ≠ 0 := by rintro rfl; exact ha (zero_cl d)
  have hd : d ≠ 0 := by rintro rfl; exact ha (cl_zero q)
  have := bl_cl hq hd
  have := bl_pos.2 hq
  omega
theorem Dv.cancel {c a b : Nat} (hc : c ≠ 0) (h : Dv (cl c a) (cl c b)) : Dv a b := by
  obtain ⟨q, hq⟩ := h
  exact ⟨q, cl_cancel hc (by rw [hq, cl_left_comm])⟩
theorem pmod_eq_zero {a b : Nat} (hb : b ≠ 0) : pmod a b = 0 ↔ Dv b a := by
  constructor
  · intro h
    have e := div_eq hb a
    rw [h, Nat.xor_zero] at e
    exact ⟨_, e⟩
  · rintro ⟨q, rfl⟩
    exact ((div_unique hb (a := cl q b) (q := q) (r := 0) (by rw [Nat.xor_zero]) (by rw [bl_zero]; exact bl_pos.2 hb)).2).symm
theorem pmod_small {a b : Nat} (h : bl a < bl b) : pmod a b = a := by unfold pmod; rw [pdm_small h]
theorem pmod_xor {b : Nat} (hb : b ≠ 0) (a c : Nat) : pmod (a ^^^ c) b = pmod a b ^^^ pmod c b := by
  symm
  refine (div_unique hb (q := pquo a b ^^^ pquo c b) ?_ ?_).2
  · have e1 := div_eq hb a
    have e2 := div_eq hb c
    rw [cl_xor_left]
    calc a ^^^ c = (cl (pquo a b) b ^^^ pmod a b) ^^^ (cl (pquo c b) b ^^^ pmod c b) := by rw [← e1, ← e2]
      _ = _ := by ac_rfl
  · have h1 := pmod_lt hb a
    have h2 := pmod_lt hb c
    have := bl_xor_le (x := pmod a b) (y := pmod c b) (n := bl b - 1) (by omega) (by omega)
    omega
theorem dv_xor_pmod {b : Nat} (hb : b ≠ 0) (a : Nat) : Dv b (a ^^^ pmod a b) := by
  have e := div_eq hb a
  refine ⟨pquo a b, ?_⟩
  have := xor_eq_iff.1 e.symm
  exact this.symm
/-- Congruent. -/
theorem pmod_eq_iff {a c b : Nat} (hb : b ≠ 0) : pmod a b = pmod c b ↔ Dv b (a ^^^ c) := by
  rw [← pmod_eq_zero hb, pmod_xor hb, xor_eq_zero]
theorem pmod_cl_left {b : Nat} (hb : b ≠ 0) (a c : Nat) : pmod (cl (pmod a b) c) b = pmod (cl a c) b := by
  rw [pmod_eq_iff hb, ← cl_xor_left, Nat.xor_comm]
  exact (dv_xor_pmod hb a).mul_right c
theorem pmod_cl_right {b : Nat} (hb : b ≠ 0) (a c : Nat) : pmod (cl a (pmod c b)) b = pmod (cl a c) b := by
  rw [cl_comm, pmod_cl_left hb, cl_comm]
theorem pmod_self_mul {b : Nat} (hb : b ≠ 0) (q : Nat) : pmod (cl q b) b = 0 := (pmod_eq_zero hb).2 ⟨q, rfl⟩

/-- Euclid's greatest common divisor. -/
def pgcd (a b : Nat) : Nat := if h : b = 0 then a else pgcd b (pmod a b)
termination_by bl b
decreasing_by exact pmod_lt h a
theorem pgcd_zero (a : Nat) : pgcd a 0 = a := by rw [pgcd]; simp
theorem pgcd_step {a b : Nat} (h : b ≠ 0) : pgcd a b = pgcd b (pmod a b) := by rw [pgcd]; simp [h]
theorem pgcd_spec : ∀ (n a b : Nat), bl b ≤ n → (Dv (pgcd a b) a ∧ Dv (pgcd a b) b) ∧ ∃ u v, pgcd a b = cl u a ^^^ cl v b := by
  intro n
  induction n with
  | zero =>
    intro a b h
    have : b = 0 := bl_eq_zero.1 (by omega)
    subst this
    rw [pgcd_zero]
    exact ⟨⟨Dv.refl a, Dv.zero a⟩, 1, 0, by rw [one_cl, zero_cl, Nat.xor_zero]⟩
  | succ n ih =>
    intro a b h
    by_cases hb : b = 0
    · subst hb
      rw [pgcd_zero]
      exact ⟨⟨Dv.refl a, Dv.zero a⟩, 1, 0, by rw [one_cl, zero_cl, Nat.xor_zero]⟩
    · have hl := pmod_lt hb a
      obtain ⟨⟨d1, d2⟩, u, v, e⟩ := ih b (pmod a b) (by omega)
      rw [pgcd_step hb]
      refine ⟨⟨?_, d1⟩, v, u ^^^ cl v (pquo a b), ?_⟩
      · have h3 := (d1.mul_left (pquo a b)).xor d2
        rwa [← div_eq hb a] at h3
      · rw [e]
        have h2 : pmod a b = a ^^^ cl (pquo a b) b := by
          have := div_eq hb a
          rw [Nat.xor_comm] at this
          exact xor_eq_iff.1 this.symm
        rw [cl_xor_left, cl_assoc]
        have : cl v (pmod a b) = cl v a ^^^ cl v (cl (pquo a b) b) := by rw [← cl_xor_right, ← h2]
        rw [this]
        ac_rfl
theorem pgcd_dv_left (a b : Nat) : Dv (pgcd a b) a := (pgcd_spec _ a b (Nat.le_refl _)).1.1
theorem pgcd_dv_right (a b : Nat) : Dv (pgcd a b) b := (pgcd_spec _ a b (Nat.le_refl _)).1.2
theorem pgcd_bezout (a b : Nat) : ∃ u v, pgcd a b = cl u a ^^^ cl v b := (pgcd_spec _ a b (Nat.le_refl _)).2
/-- A polynomial of a degree from 1 on that is no product of two such. -/
def Irr (p : Nat) : Prop := 2 ≤ p ∧ ∀ d e, p = cl d e → d = 1 ∨ e = 1
theorem Irr.gcd {p : Nat} (h : Irr p) (a : Nat) : Dv p a ∨ pgcd a p = 1 := by
  obtain ⟨q, hq⟩ := pgcd_dv_right a p
  rcases h.2 _ _ hq with e | e
  · subst e
    rw [one_cl] at hq
    left
    have := pgcd_dv_left a p
    rwa [← hq] at this
  · exact .inr e
theorem Irr.prime {p : Nat} (h : Irr p) {a b : Nat} (k : Dv p (cl a b)) : Dv p a ∨ Dv p b := by
  rcases h.gcd a with d | e
  · exact .inl d
  · right
    obtain ⟨u, v, e2⟩ := pgcd_bezout a p
    rw [e] at e2
    have h1 : b = cl (cl u a) b ^^^ cl (cl v p) b := by rw [← cl_xor_left, ← e2, one_cl]
    have h2 : Dv p (cl (cl u a) b) := by rw [cl_assoc]; exact k.mul_left u
    have h3 : Dv p (cl (cl v p) b) := ((Dv.refl p).mul_left v).mul_right b
    have h4 := h2.xor h3
    rwa [← h1] at h4
/-- Powers. -/
def pp (a : Nat) : Nat → Nat
  | 0 => 1
  | n + 1 => cl (pp a n) a
theorem pp_succ (a n : Nat) : pp a (n + 1) = cl (pp a n) a := rfl
theorem pp_add (a m n : Nat) : pp a (m + n) = cl (pp a m) (pp a n) := by
  induction n with
  | zero => rw [Nat.add_zero, pp, cl_one]
  | succ n ih => rw [← Nat.add_assoc, pp, pp, ih, cl_assoc]
theorem pp_mul (a m n : Nat) : pp a (m * n) = pp (pp a m) n := by
  induction n with
  | zero => rfl
  | succ n ih => rw [Nat.mul_succ, pp_add, ih, pp]
theorem pp_one (a : Nat) : pp a 1 = a := by rw [pp, pp, one_cl]
theorem one_pp (n : Nat) : pp 1 n = 1 := by
  induction n with
  | zero => rfl
  | succ n ih => rw [pp, ih, cl_one]
theorem pp_two (a : Nat) : pp a 2 = cl a a := by rw [pp, pp_one]
theorem pp_pmod {p : Nat} (hp : p ≠ 0) (a n : Nat) : pmod (pp (pmod a p) n) p = pmod (pp a n) p := by
  induction n with
  | zero => rfl
  | succ n ih => rw [pp, pp, ← pmod_cl_left hp, ih, pmod_cl_left hp, pmod_cl_right hp]
/-- A list's product. -/
def prodl : List Nat → Nat
  | [] => 1
  | x :: l => cl x (prodl l)
theorem prodl_perm {l m : List Nat} (h : l.Perm m) : prodl l = prodl m := by
  induction h with
  | nil => rfl
  | cons x _ ih => rw [prodl, prodl, ih]
  | swap x y l => rw [prodl, prodl, prodl, prodl, cl_left_comm]
  | trans _ _ h1 h2 => rw [h1, h2]
theorem prodl_map_cl (a : Nat) (l : List Nat) : prodl (l.map (cl a)) = cl (pp a l.length) (prodl l) := by
  induction l with
  | nil => rw [List.map_nil, List.length_nil, prodl, pp, one_cl]
  | cons x l ih => rw [List.map_cons, prodl, prodl, ih, List.length_cons, pp]; ac_rfl
theorem prodl_map_pmod {p : Nat} (hp : p ≠ 0) (f : Nat → Nat) (l : List Nat) :
    pmod (prodl (l.map fun x => pmod (f x) p)) p = pmod (prodl (l.map f)) p := by
  induction l with
  | nil => rfl
  | cons x l ih =>
    rw [List.map_cons, List.map_cons, prodl, prodl, pmod_cl_left hp, ← pmod_cl_right hp, ih, pmod_cl_right hp]
theorem perm_of_subset : ∀ {l m : List Nat}, l.Nodup → (∀ x ∈ l, x ∈ m) → m.length ≤ l.length → l.Perm m := by
  intro l
  induction l with
  | nil =>
    intro m _ _ h
    have : m = [] := List.length_eq_zero_iff.1 (by simpa using h)
    subst this
    exact List.Perm.refl _
  | cons x l ih =>
    intro m hn hs hl
    have hx : x ∈ m := hs x (by simp)
    have hp := List.perm_cons_erase hx
    rw [List.nodup_cons] at hn
    refine List.Perm.trans (List.Perm.cons x (ih hn.2 ?_ ?_)) hp.symm
    · intro y hy
      have hne : y ≠ x := by rintro rfl; exact hn.1 hy
      exact (List.mem_erase_of_ne hne).2 (hs y (by simp [hy]))
    · have := hp.length_eq
      rw [List.length_cons] at this hl
      omega
theorem nodup_map {f : Nat → Nat} : ∀ {l : List Nat}, l.Nodup → (∀ x ∈ l, ∀ y ∈ l, f x = f y → x = y) → (l.map f).Nodup := by
  intro l
  induction l with
  | nil => intro _ _; exact List.nodup_nil
  | cons x l ih =>
    intro hn hi
    rw [List.nodup_cons] at hn
    rw [List.map_cons, List.nodup_cons]
    refine ⟨?_, ih hn.2 fun y hy z hz => hi y (by simp [hy]) z (by simp [hz])⟩
    intro hm
    obtain ⟨y, hy, e⟩ := List.mem_map.1 hm
    have := hi y (by simp [hy]) x (by simp) e
    subst this
    exact hn.1 hy
theorem prodl_ndv {p : Nat} (h : Irr p) : ∀ l : List Nat, (∀ x ∈ l, ¬ Dv p x) → ¬ Dv p (prodl l) := by
  intro l
  induction l with
  | nil =>
    intro _ hd
    rw [prodl] at hd
    have h1 := hd.bl_le (by decide)
    have h2 : 1 < bl p := lt_bl.2 h.1
    rw [bl_one] at h1
    omega
  | cons x l ih =>
    intro hx hd
    rw [prodl] at hd
    rcases h.prime hd with e | e
    · exact hx x (by simp) e
    · exact ih (fun y hy => hx y (by simp [hy])) e
theorem Irr.ne {p : Nat} (h : Irr p) : p ≠ 0 := by have := h.1; omega
theorem Irr.cancel {p : Nat} (h : Irr p) {a b c : Nat} (hc : ¬ Dv p c) (e : pmod (cl a c) p = pmod (cl b c) p) : pmod a p = pmod b p := by
  rw [pmod_eq_iff h.ne, ← cl_xor_left] at e
  rcases h.prime e with k | k
  · exact (pmod_eq_iff h.ne).2 k
  · exact absurd k hc
/-- Fermat: modulo an irreducible p of degree d, a to the 2^d - 1 is 1 where p doesn't divide a. -/
theorem fermat {p d : Nat} (h : Irr p) (hd : bl p = d + 1) {a : Nat} (ha : ¬ Dv p a) : pmod (pp a (2 ^ d - 1)) p = 1 := by
  have hp := h.ne
  have hd1 : 1 ≤ d := by have : 1 < bl p := lt_bl.2 h.1; omega
  have hpow : 0 < 2 ^ d := Nat.two_pow_pos d
  let L := (List.range (2 ^ d - 1)).map (· + 1)
  have hL : ∀ x, x ∈ L ↔ 1 ≤ x ∧ x < 2 ^ d := by
    intro x
    simp only [L, List.mem_map, List.mem_range]
    constructor
    · rintro ⟨y, hy, rfl⟩; omega
    · intro hx; exact ⟨x - 1, by omega, by omega⟩
  have hlen : L.length = 2 ^ d - 1 := by simp [L]
  have hnd : ∀ x ∈ L, ¬ Dv p x := by
    intro x hx k
    have hx := (hL x).1 hx
    have h1 := k.bl_le (by omega)
    have h2 := bl_le.2 hx.2
    omega
  have hN : L.Nodup := nodup_map List.nodup_range (by intro x _ y _ e; simpa using e)
  have hperm : (L.map fun x => pmod (cl a x) p).Perm L := by
    refine perm_of_subset (nodup_map hN ?_) ?_ (by simp)
    · intro x hx y hy e
      have e2 : pmod x p = pmod y p := h.cancel ha (by rw [cl_comm x, cl_comm y]; exact e)
      have hx := (hL x).1 hx
      have hy := (hL y).1 hy
      rw [pmod_small (by rw [hd]; have := bl_le.2 hx.2; omega), pmod_small (by rw [hd]; have := bl_le.2 hy.2; omega)] at e2
      exact e2
    · intro y hy
      obtain ⟨x, hx, rfl⟩ := List.mem_map.1 hy
      refine (hL _).2 ⟨?_, ?_⟩
      · have : pmod (cl a x) p ≠ 0 := by
          intro e
          rcases h.prime ((pmod_eq_zero hp).1 e) with k | k
          · exact ha k
          · exact hnd x hx k
        omega
      · exact bl_le.1 (by have := pmod_lt hp (cl a x); omega)
  have e1 := prodl_perm hperm
  have e2 := prodl_map_pmod hp (cl a) L
  rw [e1, prodl_map_cl, hlen] at e2
  have e3 : pmod (cl 1 (prodl L)) p = pmod (cl (pp a (2 ^ d - 1)) (prodl L)) p := by rw [one_cl]; exact e2
  have e4 := h.cancel (prodl_ndv h L hnd) e3
  rw [← e4]
  exact pmod_small (by rw [bl_one, hd]; omega)
end GP

/- The field of 2^d elements as residues of polynomials over GF(2), for any irreducible modulus; what can be run by the kernel; the two moduli 285 and 65581. Plain Lean. -/
set_option linter.unusedVariables false
set_option linter.unusedSectionVars false
namespace GP

/-! ### what the kernel runs -/
def clf : Nat → Nat → Nat → Nat
  | 0, _, _ => 0
  | n + 1, a, b => (if b % 2 = 1 then a else 0) ^^^ (2 * clf n a (b / 2))
theorem clf_eq : ∀ (n a b : Nat), b < 2 ^ n → clf n a b = cl a b := by
  intro n
  induction n with
  | zero => intro a b h; have : b = 0 := by omega
            subst this; rw [clf, cl_zero]
  | succ n ih => intro a b h; rw [clf, cl_step, ih a (b / 2) (by rw [Nat.pow_succ] at h; omega)]
def pmf : Nat → Nat → Nat → Nat
  | 0, a, _ => a
  | n + 1, a, b => if Nat.log2 a < Nat.log2 b then a else pmf n (a ^^^ b <<< (Nat.log2 a - Nat.log2 b)) b
theorem bl_log {x : Nat} (h : x ≠ 0) : bl x = x.log2 + 1 := by unfold bl; rw [if_neg h]
theorem pmod_zero_left (b : Nat) : pmod 0 b = 0 := by
  by_cases hb : b = 0
  · subst hb; unfold pmod; rw [pdm_zero]
  · exact pmod_small (by rw [bl_zero]; exact bl_pos.2 hb)
theorem pmf_eq {b : Nat} (hb : 2 ≤ b) : ∀ (n a : Nat), bl a ≤ n → pmf n a b = pmod a b := by
  have hb0 : b ≠ 0 := by omega
  have hbl := bl_log hb0
  have hb2 : 1 < bl b := lt_bl.2 hb
  intro n
  induction n with
  | zero => intro a h; have : a = 0 := bl_eq_zero.1 (by omega)
            subst this; rw [pmf, pmod_zero_left]
  | succ n ih =>
    intro a h
    rw [pmf]
    by_cases ha : a = 0
    · subst ha
      rw [if_pos (by rw [show Nat.log2 0 = 0 from rfl]; omega), pmod_zero_left]
    · have hal := bl_log ha
      by_cases hlt : Nat.log2 a < Nat.log2 b
      · rw [if_pos hlt, pmod_small (by omega)]
      · rw [if_neg hlt, Nat.shiftLeft_eq]
        have hle : bl b ≤ bl a := by omega
        have e1 : Nat.log2 a - Nat.log2 b = bl a - bl b := by omega
        rw [e1, ih _ (by have := step_lt hb0 hle; omega)]
        have hst := pdm_step hb0 hle
        unfold pmod; rw [hst]
def mulf (p a b : Nat) : Nat := pmf 32 (clf 16 a b) p
def powf (p : Nat) : Nat → Nat → Nat → Nat
  | 0, _, _ => 1
  | n + 1, a, e => if e % 2 = 1 then mulf p (powf p n (mulf p a a) (e / 2)) a else powf p n (mulf p a a) (e / 2)

theorem cl_lt2 {a b m n : Nat} (ha : a < 2 ^ m) (hb : b < 2 ^ n) : cl a b < 2 ^ (m + n) := by
  by_cases h0 : a = 0
  · subst h0; rw [zero_cl]; exact Nat.two_pow_pos _
  · by_cases h1 : b = 0
    · subst h1; rw [cl_zero]; exact Nat.two_pow_pos _
    · have := bl_cl h0 h1
      have := bl_le.2 ha
      have := bl_le.2 hb
      exact bl_le.1 (by omega)
/-! ### the field -/
def fm (p a b : Nat) : Nat := pmod (cl a b) p
def fpow (p a n : Nat) : Nat := pmod (pp a n) p
theorem fm_comm (p a b : Nat) : fm p a b = fm p b a := by unfold fm; rw [cl_comm]
theorem fm_xor_right {p : Nat} (hp : p ≠ 0) (a b c : Nat) : fm p a (b ^^^ c) = fm p a b ^^^ fm p a c := by unfold fm; rw [cl_xor_right, pmod_xor hp]
theorem fm_zero (p a : Nat) : fm p a 0 = 0 := by unfold fm; rw [cl_zero, pmod_zero_left]
theorem zero_fm (p a : Nat) : fm p 0 a = 0 := by unfold fm; rw [zero_cl, pmod_zero_left]
theorem fm_assoc {p : Nat} (hp : p ≠ 0) (a b c : Nat) : fm p (fm p a b) c = fm p a (fm p b c) := by
  unfold fm; rw [pmod_cl_left hp, pmod_cl_right hp, cl_assoc]
theorem fpow_zero (p a : Nat) : fpow p a 0 = pmod 1 p := rfl
theorem fpow_succ {p : Nat} (hp : p ≠ 0) (a n : Nat) : fpow p a (n + 1) = fm p (fpow p a n) a := by unfold fpow fm; rw [pp_succ, pmod_cl_left hp]
theorem fpow_add {p : Nat} (hp : p ≠ 0) (a m n : Nat) : fpow p a (m + n) = fm p (fpow p a m) (fpow p a n) := by
  unfold fpow fm; rw [pp_add, pmod_cl_left hp, pmod_cl_right hp]
theorem fpow_mul {p : Nat} (hp : p ≠ 0) (a m n : Nat) : fpow p a (m * n) = fpow p (fpow p a m) n := by
  unfold fpow; rw [pp_mul, pp_pmod hp]
section
variable {p d : Nat} (h : Irr p) (hd : bl p = d + 1)
include hd in
theorem pmod_lt_pow (a : Nat) : pmod a p < 2 ^ d := bl_le.1 (by have := pmod_lt (b := p) (bl_pos.1 (by omega)) a; omega)
include hd in
theorem pmod_id {a : Nat} (ha : a < 2 ^ d) : pmod a p = a := pmod_small (by have := bl_le.2 ha; omega)
include hd in
theorem fm_lt (a b : Nat) : fm p a b < 2 ^ d := pmod_lt_pow hd _
include hd in
theorem fpow_lt (a n : Nat) : fpow p a n < 2 ^ d := pmod_lt_pow hd _
include hd in
theorem one_lt (h : Irr p) : 1 < 2 ^ d := by
  have : 1 < bl p := lt_bl.2 h.1
  have := Nat.pow_le_pow_right (n := 2) (by decide) (show 1 ≤ d by omega)
  omega
include h hd
theorem pmod_one : pmod 1 p = 1 := pmod_id hd (one_lt hd h)
theorem fm_one {a : Nat} (ha : a < 2 ^ d) : fm p a 1 = a := by unfold fm; rw [cl_one, pmod_id hd ha]
theorem one_fm {a : Nat} (ha : a < 2 ^ d) : fm p 1 a = a := by rw [fm_comm, fm_one h hd ha]
theorem dv_iff {a : Nat} (ha : a < 2 ^ d) : Dv p a ↔ a = 0 := by
  rw [← pmod_eq_zero h.ne, pmod_id hd ha]
theorem fm_eq_zero {a b : Nat} (ha : a < 2 ^ d) (hb : b < 2 ^ d) : fm p a b = 0 ↔ a = 0 ∨ b = 0 := by
  constructor
  · intro e
    rcases h.prime ((pmod_eq_zero h.ne).1 e) with k | k
    · exact .inl ((dv_iff h hd ha).1 k)
    · exact .inr ((dv_iff h hd hb).1 k)
  · rintro (rfl | rfl)
    · exact zero_fm p b
    · exact fm_zero p a
theorem fm_cancel {a b c : Nat} (hc : c < 2 ^ d) (hc0 : c ≠ 0) (ha : a < 2 ^ d) (hb : b < 2 ^ d) (e : fm p a c = fm p b c) : a = b := by
  have := h.cancel (fun k => hc0 ((dv_iff h hd hc).1 k)) e
  rwa [pmod_id hd ha, pmod_id hd hb] at this
theorem fpow_full {a : Nat} (ha : a < 2 ^ d) (h0 : a ≠ 0) : fpow p a (2 ^ d - 1) = 1 := fermat h hd (fun k => h0 ((dv_iff h hd ha).1 k))
/-- The inverse. -/
theorem fm_inv {a : Nat} (ha : a < 2 ^ d) (h0 : a ≠ 0) : fm p (fpow p a (2 ^ d - 2)) a = 1 := by
  have h2 := one_lt hd h
  rw [← fpow_succ h.ne, show 2 ^ d - 2 + 1 = 2 ^ d - 1 by omega, fpow_full h hd ha h0]
theorem inv_unique {a x : Nat} (ha : a < 2 ^ d) (hx : x < 2 ^ d) (e : fm p x a = 1) : x = fpow p a (2 ^ d - 2) := by
  have h0 : a ≠ 0 := by rintro rfl; rw [fm_zero] at e; cases e
  apply fm_cancel h hd ha h0 hx (fpow_lt hd _ _)
  rw [e, fm_inv h hd ha h0]
theorem fpow_ne {a : Nat} (ha : a < 2 ^ d) (h0 : a ≠ 0) (n : Nat) : fpow p a n ≠ 0 := by
  induction n with
  | zero => rw [fpow_zero, pmod_one h hd]; decide
  | succ n ih =>
    rw [fpow_succ h.ne]
    intro e
    rcases (fm_eq_zero h hd (fpow_lt hd a n) ha).1 e with k | k
    · exact ih k
    · exact h0 k
theorem fpow_mod {a : Nat} (ha : a < 2 ^ d) (h0 : a ≠ 0) (n : Nat) : fpow p a n = fpow p a (n % (2 ^ d - 1)) := by
  have e := Nat.div_add_mod n (2 ^ d - 1)
  have : fpow p a (2 ^ d - 1) = 1 := fpow_full h hd ha h0
  conv => lhs; rw [← e]
  rw [fpow_add h.ne, fpow_mul h.ne, this]
  have e1 : fpow p 1 (n / (2 ^ d - 1)) = 1 := by unfold fpow; rw [one_pp, pmod_one h hd]
  rw [e1, one_fm h hd (fpow_lt hd _ _)]
/-- Logarithms: where 2 has the order 2^d - 1. -/
theorem fpow_inj (ho : ∀ j, 1 ≤ j → j < 2 ^ d - 1 → fpow p 2 j ≠ 1) (h2 : 2 < 2 ^ d) : ∀ i j : Nat, i < 2 ^ d - 1 → j < 2 ^ d - 1 → fpow p 2 i = fpow p 2 j → i = j := by
  have key : ∀ i j : Nat, i < j → j < 2 ^ d - 1 → fpow p 2 i = fpow p 2 j → False := by
    intro i j hij hj e
    have e1 : fpow p 2 j = fm p (fpow p 2 (j - i)) (fpow p 2 i) := by rw [← fpow_add h.ne, Nat.sub_add_cancel (by omega)]
    have e2 : fm p 1 (fpow p 2 i) = fm p (fpow p 2 (j - i)) (fpow p 2 i) := by rw [one_fm h hd (fpow_lt hd _ _), ← e1, e]
    have := fm_cancel h hd (fpow_lt hd _ _) (fpow_ne h hd h2 (by decide) i) (one_lt hd h) (fpow_lt hd _ _) e2
    exact ho (j - i) (by omega) (by omega) this.symm
  intro i j hi hj e
  rcases Nat.lt_trichotomy i j with k | k | k
  · exact (key i j k hj e).elim
  · exact k
  · exact (key j i k hi e.symm).elim
theorem fpow_surj (ho : ∀ j, 1 ≤ j → j < 2 ^ d - 1 → fpow p 2 j ≠ 1) (h2 : 2 < 2 ^ d) {a : Nat} (ha : a < 2 ^ d) (h0 : a ≠ 0) : ∃ i, i < 2 ^ d - 1 ∧ fpow p 2 i = a := by
  have hN : ((List.range (2 ^ d - 1)).map (fpow p 2)).Nodup := nodup_map List.nodup_range (by
    intro i hi j hj e
    rw [List.mem_range] at hi hj
    exact fpow_inj h hd ho h2 i j hi hj e)
  have hp := perm_of_subset (m := (List.range (2 ^ d - 1)).map (· + 1)) hN (by
    intro x hx
    obtain ⟨i, _, rfl⟩ := List.mem_map.1 hx
    have h3 := fpow_lt hd 2 i
    have h4 := fpow_ne h hd h2 (by decide) i
    exact List.mem_map.2 ⟨fpow p 2 i - 1, List.mem_range.2 (by omega), by omega⟩) (by simp)
  have : a ∈ (List.range (2 ^ d - 1)).map (· + 1) := List.mem_map.2 ⟨a - 1, List.mem_range.2 (by omega), by omega⟩
  obtain ⟨i, hi, e⟩ := List.mem_map.1 (hp.mem_iff.2 this)
  exact ⟨i, List.mem_range.1 hi, e⟩
end
/-! ### irreducible by trial -/
theorem irr_of_trial {p : Nat} (hp : 2 ≤ bl p) (h : ∀ c, 2 ≤ c → bl c - 1 ≤ (bl p - 1) / 2 → pmod p c ≠ 0) : Irr p := by
  have hp0 : p ≠ 0 := bl_pos.1 (by omega)
  refine ⟨(lt_bl (n := 1)).1 (by omega), ?_⟩
  have key : ∀ d, 2 ≤ bl d → bl d - 1 ≤ (bl p - 1) / 2 → ¬ Dv d p := by
    intro d h1 h2 k
    exact h d ((lt_bl (n := 1)).1 (by omega)) h2 ((pmod_eq_zero (bl_pos.1 (by omega))).2 k)
  intro d e hde
  have hd0 : d ≠ 0 := by rintro rfl; rw [zero_cl] at hde; exact hp0 hde
  have he0 : e ≠ 0 := by rintro rfl; rw [cl_zero] at hde; exact hp0 hde
  have hb := bl_cl hd0 he0
  rw [← hde] at hb
  have hd1 := bl_pos.2 hd0
  have he1 := bl_pos.2 he0
  by_cases h1 : bl d = 1
  · left; have : d < 2 ^ 1 := bl_le.1 (by omega); omega
  · by_cases h2 : bl e = 1
    · right; have : e < 2 ^ 1 := bl_le.1 (by omega); omega
    · exfalso
      by_cases h3 : bl d - 1 ≤ (bl p - 1) / 2
      · exact key d (by omega) h3 ⟨e, by rw [cl_comm]; exact hde⟩
      · exact key e (by omega) (by omega) ⟨d, hde⟩
def trial (p : Nat) : Nat → Bool
  | 0 => true
  | n + 1 => pmf 20 p (n + 2) != 0 && trial p n
theorem trial_to {p : Nat} (hp : bl p ≤ 20) : ∀ n, trial p n = true → ∀ c, 2 ≤ c → c < n + 2 → pmod p c ≠ 0 := by
  intro n
  induction n with
  | zero => intro _ c h1 h2; omega
  | succ n ih =>
    intro h c h1 h2
    rw [trial, Bool.and_eq_true] at h
    by_cases e : c = n + 2
    · subst e
      rw [← pmf_eq h1 20 p hp]
      simpa using h.1
    · exact ih h.2 c h1 (by omega)
theorem bl285 : bl 285 = 8 + 1 := bl_eq (by decide) (by decide)
theorem irr8 : Irr 285 := irr_of_trial (by rw [bl285]; decide) (by
  intro c h1 h2
  rw [bl285] at h2
  have : c < 2 ^ 5 := bl_le.1 (by omega)
  exact trial_to (by rw [bl285]; decide) 30 (by decide +kernel) c h1 (by omega))
theorem mulf_eq {p a b : Nat} (hp : 2 ≤ p) (ha : a < 2 ^ 16) (hb : b < 2 ^ 16) : mulf p a b = fm p a b := by
  unfold mulf fm
  rw [clf_eq 16 a b hb]
  apply pmf_eq hp
  by_cases h0 : a = 0
  · subst h0; rw [zero_cl, bl_zero]; omega
  · by_cases h1 : b = 0
    · subst h1; rw [cl_zero, bl_zero]; omega
    · have := bl_cl h0 h1
      have := bl_le.2 ha
      have := bl_le.2 hb
      omega
theorem powf_eq {p d : Nat} (hp : 2 ≤ p) (hd : bl p = d + 1) (hd16 : d ≤ 16) (h1 : 1 ≤ d) : ∀ (n a e : Nat), e < 2 ^ n → a < 2 ^ d → powf p n a e = fpow p a e := by
  have hp0 : p ≠ 0 := by omega
  have hle : 2 ^ d ≤ 2 ^ 16 := Nat.pow_le_pow_right (by decide) hd16
  intro n
  induction n with
  | zero =>
    intro a e he ha
    have : e = 0 := by omega
    subst this
    rw [powf, fpow_zero, pmod_id hd (by have := Nat.pow_le_pow_right (n := 2) (by decide) h1; omega)]
  | succ n ih =>
    intro a e he ha
    have hsq : mulf p a a = fm p a a := mulf_eq hp (by omega) (by omega)
    have hl := fm_lt hd a a
    have e2 : fpow p (fm p a a) (e / 2) = fpow p a (2 * (e / 2)) := by
      unfold fpow fm; rw [pp_pmod hp0, ← pp_two, ← pp_mul]
    rw [powf, hsq, ih _ _ (by rw [Nat.pow_succ] at he; omega) hl, e2]
    by_cases ho : e % 2 = 1
    · rw [if_pos ho, mulf_eq hp (by have := fpow_lt hd a (2 * (e / 2)); omega) (by omega), ← fpow_succ hp0, show 2 * (e / 2) + 1 = e by omega]
    · rw [if_neg ho, show 2 * (e / 2) = e by omega]
theorem run8 : ∀ j, j < 255 → 1 ≤ j → (powf 285 8 2 j != 1) = true := by decide +kernel
theorem ord8 : ∀ j, 1 ≤ j → j < 2 ^ 8 - 1 → fpow 285 2 j ≠ 1 := by
  intro j h1 h2
  have := run8 j h2 h1
  rw [powf_eq (by decide) bl285 (by decide) (by decide) 8 2 j (by omega) (by decide)] at this
  simpa using this
end GP

/- What the printed functions of the ring compute, in terms of polynomials as numbers. -/
namespace Go.Proofs.Ytidogckochpbgaa.R
open Go.RowKit Go.Proofs.YtidogckochpbgaaW.PrintWords Go.Proofs.YtidogckochpbgaaW.PrintLast Go.Proofs.YtidogckochpbgaaW.PrintMore Go.Proofs.Ytidogckochpbgaa.A GP
set_option linter.unusedVariables false

theorem wrap64_id {n : Int} (h : -9223372036854775808 ≤ n) (h' : n ≤ 9223372036854775807) : wrap64 n = n := by unfold wrap64; omega
theorem u64_wrap (n : Int) : IntKind.u64.wrap n = n % 18446744073709551616 := by simp [IntKind.wrap, IntKind.bits, IntKind.signed]
theorem u64_wrap_nat {n : Nat} (h : n < 2 ^ 64) : IntKind.u64.wrap (n : Int) = n := by
  rw [u64_wrap]; have : (n : Int) < 2 ^ 64 := by exact_mod_cast h
  omega
theorem bits_nat3 (k : IntKind) {a b : Nat} (ha : a < 2 ^ k.bits) (hb : b < 2 ^ k.bits) (hw : ∀ n : Nat, n < 2 ^ k.bits → k.wrap (n : Int) = n) :
    Go.bits .xor k a b = ((a ^^^ b : Nat) : Int) ∧ Go.bits .or k a b = ((a ||| b : Nat) : Int) ∧ Go.bits .and k a b = ((a &&& b : Nat) : Int) := by
  have ha' : a % 2 ^ k.bits = a := Nat.mod_eq_of_lt ha
  have hb' : b % 2 ^ k.bits = b := Nat.mod_eq_of_lt hb
  refine ⟨?_, ?_, ?_⟩
  · simp only [Go.bits, BitVec.ofInt_natCast, BitVec.toNat_xor, BitVec.toNat_ofNat, ha', hb']
    exact hw _ (Nat.xor_lt_two_pow ha hb)
  · simp only [Go.bits, BitVec.ofInt_natCast, BitVec.toNat_or, BitVec.toNat_ofNat, ha', hb']
    exact hw _ (Nat.or_lt_two_pow ha hb)
  · simp only [Go.bits, BitVec.ofInt_natCast, BitVec.toNat_and, BitVec.toNat_ofNat, ha', hb']
    exact hw _ (Nat.and_lt_two_pow _ hb)
theorem bits_natj (k : IntKind) (j : Nat) (hj : j ≤ k.bits) {a b : Nat} (ha : a < 2 ^ j) (hb : b < 2 ^ j) (hw : ∀ n : Nat, n < 2 ^ j → k.wrap (n : Int) = n) :
    Go.bits .xor k a b = ((a ^^^ b : Nat) : Int) ∧ Go.bits .or k a b = ((a ||| b : Nat) : Int) ∧ Go.bits .and k a b = ((a &&& b : Nat) : Int) := by
  have hp : 2 ^ j ≤ 2 ^ k.bits := Nat.pow_le_pow_right (by decide) hj
  have ha' : a % 2 ^ k.bits = a := Nat.mod_eq_of_lt (by omega)
  have hb' : b % 2 ^ k.bits = b := Nat.mod_eq_of_lt (by omega)
  refine ⟨?_, ?_, ?_⟩
  · simp only [Go.bits, BitVec.ofInt_natCast, BitVec.toNat_xor, BitVec.toNat_ofNat, ha', hb']
    exact hw _ (Nat.xor_lt_two_pow ha hb)
  · simp only [Go.bits, BitVec.ofInt_natCast, BitVec.toNat_or, BitVec.toNat_ofNat, ha', hb']
    exact hw _ (Nat.or_lt_two_pow ha hb)
  · simp only [Go.bits, BitVec.ofInt_natCast, BitVec.toNat_and, BitVec.toNat_ofNat, ha', hb']
    exact hw _ (Nat.and_lt_two_pow _ hb)
theorem i64_id {n : Nat} (h : n < 2 ^ 62) : IntKind.i64.wrap (n : Int) = n := by rw [IntKind.wrap_i64]; omega
theorem bits_xori {a b : Nat} (ha : a < 2 ^ 62) (hb : b < 2 ^ 62) : Go.bits .xor .i64 a b = ((a ^^^ b : Nat) : Int) := (bits_natj .i64 62 (by decide) ha hb fun _ h => i64_id h).1
theorem bits_andi {a b : Nat} (ha : a < 2 ^ 62) (hb : b < 2 ^ 62) : Go.bits .and .i64 a b = ((a &&& b : Nat) : Int) := (bits_natj .i64 62 (by decide) ha hb fun _ h => i64_id h).2.2
theorem bits_xor64 {a b : Nat} (ha : a < 2 ^ 64) (hb : b < 2 ^ 64) : Go.bits .xor .u64 a b = ((a ^^^ b : Nat) : Int) := (bits_nat3 .u64 ha hb fun _ h => u64_wrap_nat h).1
theorem bits_and64 {a b : Nat} (ha : a < 2 ^ 64) (hb : b < 2 ^ 64) : Go.bits .and .u64 a b = ((a &&& b : Nat) : Int) := (bits_nat3 .u64 ha hb fun _ h => u64_wrap_nat h).2.2
end Go.Proofs.Ytidogckochpbgaa.R

/- The peasant's way of multiplying, and what the printed functions of layer 2 and of the theorems' own products compute. -/
namespace Go.Proofs.Ytidogckochpbgaa.R
open Go.RowKit Go.Proofs.YtidogckochpbgaaW.PrintWords Go.Proofs.YtidogckochpbgaaW.PrintLast Go.Proofs.YtidogckochpbgaaW.PrintMore Go.Proofs.Ytidogckochpbgaa.A GP
set_option linter.unusedVariables false
set_option linter.unusedSimpArgs false

theorem cl_two (x : Nat) : cl x 2 = 2 * x := by have := cl_pow x 1; rw [Nat.pow_one] at this; omega
theorem cl_dbl (x c : Nat) : cl (2 * x) c = 2 * cl x c := by rw [cl_comm, cl_bit0, cl_comm]
theorem fm_peasant {p d : Nat} (hd : bl p = d + 1) {x : Nat} (hx : x < 2 ^ d) (y : Nat) : fm p x y = (if y % 2 = 1 then x else 0) ^^^ fm p (fm p x 2) (y / 2) := by
  have hp : p ≠ 0 := bl_pos.1 (by omega)
  unfold fm
  rw [cl_step, pmod_xor hp, pmod_cl_left hp, cl_two, cl_dbl]
  congr 1
  split
  · exact pmod_id hd hx
  · exact pmod_zero_left _
def m8 (a b : Nat) : Nat := fm 285 a b
def i8 (a : Nat) : Nat := fpow 285 a 254
theorem m8_lt (a b : Nat) : m8 a b < 256 := fm_lt bl285 a b
theorem i8_lt (a : Nat) : i8 a < 256 := fpow_lt bl285 a _
theorem red8 {y : Nat} (h : 255 < y) (h2 : y < 2 ^ 9) : y ^^^ 285 < 256 := by
  have hx : y ^^^ 285 < 2 ^ 9 := Nat.xor_lt_two_pow h2 (by decide)
  have hb : (y ^^^ 285).testBit 8 = false := by
    rw [Nat.testBit_xor]
    have : y.testBit 8 = true := by rw [Nat.testBit_eq_decide_div_mod_eq, decide_eq_true_eq]; omega
    rw [this]; decide
  rw [Nat.testBit_eq_decide_div_mod_eq, decide_eq_false_iff_not] at hb
  omega
theorem fm8_two {x : Nat} (hx : x < 256) : fm 285 x 2 = if 255 < 2 * x then (2 * x) ^^^ 285 else 2 * x := by
  unfold fm
  rw [cl_two]
  by_cases h : 255 < 2 * x
  · rw [if_pos h]
    have h1 : pmod 285 285 = 0 := by
      have := pmod_self_mul (b := 285) (by decide) 1
      rwa [cl_comm, cl_one] at this
    have h2 := pmod_xor (b := 285) (by decide) (2 * x) 285
    rw [h1, Nat.xor_zero, pmod_id bl285 (red8 h (by omega))] at h2
    exact h2.symm
  · rw [if_neg h, pmod_id bl285 (by omega)]
theorem u8_id {n : Nat} (h : n < 256) : IntKind.u8.wrap (n : Int) = n := by rw [IntKind.wrap_u8]; omega
theorem of_u8 {a : Int} (h : (Lit.int .u8 a).wf = true) : ∃ n : Nat, a = (n : Int) ∧ n < 256 := by
  simp only [Lit.wf, IntKind.min, IntKind.max, IntKind.signed, IntKind.bits, Bool.and_eq_true, decide_eq_true_eq, Bool.false_eq_true, if_false] at h
  exact ⟨a.toNat, by omega, by omega⟩
theorem bits_and8 {a b : Nat} (ha : a < 256) (hb : b < 256) : Go.bits .and .u8 a b = ((a &&& b : Nat) : Int) := (bits_nat3 .u8 ha hb fun _ h => u8_id h).2.2
theorem bits_xor8 {a b : Nat} (ha : a < 256) (hb : b < 256) : Go.bits .xor .u8 a b = ((a ^^^ b : Nat) : Int) := (bits_nat3 .u8 ha hb fun _ h => u8_id h).1
theorem and_top {x k : Nat} (hx : x < 2 ^ (k + 1)) : x &&& 2 ^ k = if 2 ^ k - 1 < x then 2 ^ k else 0 := by
  have hp := Nat.two_pow_pos k
  have h2 : 2 ^ (k + 1) = 2 * 2 ^ k := by rw [Nat.pow_succ]; omega
  have hb : x.testBit k = decide (2 ^ k - 1 < x) := by
    rw [Nat.testBit_eq_decide_div_mod_eq]
    by_cases h : 2 ^ k - 1 < x
    · have : x / 2 ^ k = 1 := by
        have h1 : x / 2 ^ k < 2 := (Nat.div_lt_iff_lt_mul hp).2 (by omega)
        have h3 : 1 ≤ x / 2 ^ k := (Nat.le_div_iff_mul_le hp).2 (by omega)
        omega
      rw [this]; simp [h]
    · have : x / 2 ^ k = 0 := Nat.div_eq_of_lt (by omega)
      rw [this]; simp [h]
  apply Nat.eq_of_testBit_eq
  intro i
  rw [Nat.testBit_and, Nat.testBit_two_pow]
  by_cases e : k = i
  · subst e
    by_cases h : 2 ^ k - 1 < x
    · rw [hb, if_pos h, Nat.testBit_two_pow]; simp [h]
    · rw [hb, if_neg h, Nat.zero_testBit]; simp [h]
  · by_cases h : 2 ^ k - 1 < x
    · rw [if_pos h, Nat.testBit_two_pow]; simp [e]
    · rw [if_neg h, Nat.zero_testBit]; simp [e]
theorem gf8_l0 : ∀ n x y s : Nat, y < 2 ^ n → y < 256 → x < 256 → s < 256 → Ev (fun k => gf8_Mul.l0 k y x s) ((s ^^^ m8 x y : Nat) : Int) := by
  have fin : ∀ x s : Nat, s < 256 → Ev (fun k => gf8_Mul.l0 k ((0 : Nat) : Int) x s) ((s ^^^ m8 x 0 : Nat) : Int) := by
    intro x s hs
    refine Ev.step (fun k => gf8_Mul.l0.eq_2 _ _ _ k) ?_
    simp only [if_pos (show ((0 : Nat) : Int) = 0 from rfl), show ((s : Nat) : Int) % 256 = (s : Int) by omega]
    unfold m8
    rw [fm_zero, Nat.xor_zero]
    exact Ev.now _
  intro n
  induction n with
  | zero =>
    intro x y s hy _ hx hs
    obtain rfl : y = 0 := by omega
    exact fin x s hs
  | succ n ih =>
    intro x y s hy hy2 hx hs
    by_cases h0 : y = 0
    · subst h0; exact fin x s hs
    · have hm := fm_peasant bl285 hx y
      rw [fm8_two hx] at hm
      have hand : Go.bits .and .u8 (y : Int) 1 = ((y % 2 : Nat) : Int) := by
        have := bits_and8 hy2 (show 1 < 256 by decide)
        rw [Nat.and_one_is_mod] at this
        exact this
      have hw : IntKind.u64.wrap ((x : Int) * 2) = ((2 * x : Nat) : Int) := by rw [show (x : Int) * 2 = ((2 * x : Nat) : Int) by omega, u64_wrap_nat (by omega)]
      have ht : Go.bits .and .u64 ((2 * x : Nat) : Int) 256 = ((if 255 < 2 * x then 256 else 0 : Nat) : Int) := by
        have := bits_and64 (a := 2 * x) (b := 256) (by omega) (by decide)
        rw [show ((256 : Nat)) = 2 ^ 8 from rfl, and_top (by omega)] at this
        exact this
      have hx1 : Go.bits .xor .u64 ((2 * x : Nat) : Int) 285 = ((2 * x ^^^ 285 : Nat) : Int) := bits_xor64 (a := 2 * x) (b := 285) (by omega) (by decide)
      have hx2 : Go.bits .xor .u64 (s : Int) (x : Int) = ((s ^^^ x : Nat) : Int) := bits_xor64 (by omega) (by omega)
      have hsx : s ^^^ x < 256 := Nat.xor_lt_two_pow (n := 8) hs hx
      have hd : (y : Int) / 2 = ((y / 2 : Nat) : Int) := by omega
      refine Ev.step (fun k => gf8_Mul.l0.eq_2 _ _ _ k) ?_
      simp only [if_neg (show ¬ ((y : Nat) : Int) = 0 by omega), hand, hw, ht, hx1, hx2, hd]
      have hy1 : y / 2 < 2 ^ n := by rw [Nat.pow_succ] at hy; omega
      have hr : 255 < 2 * x → 2 * x ^^^ 285 < 256 := fun h => red8 h (by omega)
      unfold m8
      rw [hm]
      rcases Nat.mod_two_eq_zero_or_one y with e | e
      · rw [e] at *
        simp only [show ((0 : Nat) : Int) = 0 from rfl, if_true, show ¬ (0 : Nat) = 1 by decide, if_false, Nat.zero_xor]
        by_cases hg : 255 < 2 * x
        · simp only [if_pos hg, if_neg (show ¬ ((256 : Nat) : Int) = 0 by decide)]
          exact ih _ _ _ hy1 (by omega) (hr hg) hs
        · simp only [if_neg hg, if_pos (show ((0 : Nat) : Int) = 0 from rfl)]
          exact ih _ _ _ hy1 (by omega) (by omega) hs
      · rw [e] at *
        simp only [if_neg (show ¬ ((1 : Nat) : Int) = 0 by decide), if_true, ← Nat.xor_assoc]
        by_cases hg : 255 < 2 * x
        · simp only [if_pos hg, if_neg (show ¬ ((256 : Nat) : Int) = 0 by decide)]
          exact ih _ _ _ hy1 (by omega) (hr hg) hsx
        · simp only [if_neg hg, if_pos (show ((0 : Nat) : Int) = 0 from rfl)]
          exact ih _ _ _ hy1 (by omega) (by omega) hsx
theorem Mul8 {a b : Nat} (ha : a < 256) (hb : b < 256) : Ev (fun k => gf8_Mul.f k a b) ((m8 a b : Nat) : Int) := by
  unfold gf8_Mul.f
  rw [u64_wrap_nat (show a < 2 ^ 64 by omega)]
  have := gf8_l0 8 a b 0 (by omega) hb ha (by decide)
  rw [Nat.zero_xor] at this
  exact this
end Go.Proofs.Ytidogckochpbgaa.R

/- What the tables of the field of 256 hold, and what their methods answer. -/
namespace Go.Proofs.Ytidogckochpbgaa.R
open Go.RowKit Go.Proofs.YtidogckochpbgaaW.PrintWords Go.Proofs.YtidogckochpbgaaW.PrintLast Go.Proofs.YtidogckochpbgaaW.PrintMore Go.Proofs.Ytidogckochpbgaa.A GP
set_option linter.unusedVariables false
set_option linter.unusedSimpArgs false

def p8 (a n : Nat) : Nat := fpow 285 a n
theorem fm_comm_8 (a b : Nat) : m8 a b = m8 b a := fm_comm 285 a b
theorem fm_zero_8 (a : Nat) : m8 a 0 = 0 := fm_zero 285 a
/-- n modulo 255, from 0 on. -/
def res8 (n : Int) : Nat := (if Int.tmod n 255 < 0 then Int.tmod n 255 + 255 else Int.tmod n 255).toNat
theorem pw8_eq : ∀ n, tab8.pw n = p8 2 n
  | 0 => by unfold p8; rw [fpow_zero, pmod_one irr8 bl285]; rfl
  | n + 1 => by
    rw [show p8 2 (n + 1) = m8 (p8 2 n) 2 from fpow_succ (by decide) 2 n, ← pw8_eq n]
    show _ = fm 285 (tab8.pw n) 2
    rw [fm8_two (tab8.pw_lt n)]
    rfl
theorem pw8_inj {i j : Nat} (hi : i < 255) (hj : j < 255) (e : tab8.pw i = tab8.pw j) : i = j := by
  rw [pw8_eq, pw8_eq] at e
  exact fpow_inj irr8 bl285 ord8 (by decide) i j hi hj e
theorem lg8_pw {m : Nat} : ∀ N, N ≤ 255 → m < N → tab8.lg N (tab8.pw m) = some m
  | 0, _, h => by omega
  | N + 1, hN, h => by
    unfold tab8.lg
    by_cases e : m = N
    · subst e; rw [if_pos rfl]
    · rw [if_neg (fun k => e (pw8_inj (by omega) (by omega) k.symm))]
      exact lg8_pw N (by omega) (by omega)
theorem log8 {a : Nat} (ha : a < 256) (h0 : a ≠ 0) : ∃ i, i < 255 ∧ tab8.pw i = a ∧ tab8.lg 255 a = some i := by
  obtain ⟨i, hi, e⟩ := fpow_surj irr8 bl285 ord8 (by decide) ha h0
  have e2 : tab8.pw i = a := by rw [pw8_eq]; exact e
  exact ⟨i, hi, e2, by rw [← e2]; exact lg8_pw 255 (Nat.le_refl _) hi⟩
theorem pw8_mod (n : Nat) : tab8.pw (n % 255) = tab8.pw n := by
  rw [pw8_eq, pw8_eq]; exact (fpow_mod irr8 bl285 (by decide) (by decide) n).symm
theorem pw8_add (i j : Nat) : tab8.pw (i + j) = m8 (tab8.pw i) (tab8.pw j) := by
  rw [pw8_eq, pw8_eq, pw8_eq]; exact fpow_add (by decide) 2 i j
theorem TMul8 {a b : Nat} (ha : a < 256) (hb : b < 256) : gf8_Tables_Mul.f a b = some ((m8 a b : Nat) : Int) := by
  unfold gf8_Tables_Mul.f
  rw [if_pos (by omega), Int.toNat_natCast, Int.toNat_natCast]
  by_cases h0 : a = 0
  · subst h0
    rw [if_pos (show ((0 : Nat) : Int) = 0 from rfl), fm_comm_8, fm_zero_8]; rfl
  · rw [if_neg (by omega)]
    by_cases h1 : b = 0
    · subst h1
      rw [if_pos (show ((0 : Nat) : Int) = 0 from rfl), fm_zero_8]; rfl
    · rw [if_neg (by omega)]
      obtain ⟨i, hi, ei, li⟩ := log8 ha h0
      obtain ⟨j, hj, ej, lj⟩ := log8 hb h1
      rw [li, lj, Option.bind_some, Option.bind_some, pw8_mod, pw8_add, ei, ej]
theorem TInv8 {a : Nat} (ha : a < 256) (h0 : a ≠ 0) : gf8_Tables_Inv.f a = some (((i8 a : Nat) : Int), (0 : Int)) := by
  unfold gf8_Tables_Inv.f
  obtain ⟨i, hi, ei, li⟩ := log8 ha h0
  rw [if_pos (by omega), if_neg (by omega), Int.toNat_natCast, li, Option.bind_some]
  have e : m8 (tab8.pw ((255 - i) % 255)) a = 1 := by
    rw [pw8_mod, ← ei, ← pw8_add, show 255 - i + i = 255 by omega, ← pw8_mod]; rfl
  rw [show tab8.pw ((255 - i) % 255) = i8 a from inv_unique irr8 bl285 ha (tab8.pw_lt _) e]
theorem TInv8_zero : gf8_Tables_Inv.f 0 = some (0, 20) := by
  unfold gf8_Tables_Inv.f
  rw [if_pos (by omega), if_pos rfl]
end Go.Proofs.Ytidogckochpbgaa.R

/- Matrices as lists of lists, told by a function of row and column. -/
namespace Go.Proofs.Ytidogckochpbgaa.R
open Go.RowKit Go.Proofs.YtidogckochpbgaaW.PrintWords Go.Proofs.YtidogckochpbgaaW.PrintLast Go.Proofs.YtidogckochpbgaaW.PrintMore Go.Proofs.Ytidogckochpbgaa.A
set_option linter.unusedVariables false
set_option linter.unusedSimpArgs false

/-- A row of numbers. -/
def rowOf (c : Nat) (g : Nat → Nat) : List Int := (List.range c).map fun j => ((g j : Nat) : Int)
/-- The matrix of r rows and c columns whose element (i, j) is g i j. -/
def mat (r c : Nat) (g : Nat → Nat → Nat) : List (List Int) := (List.range r).map fun i => rowOf c (g i)
theorem rowOf_len (c : Nat) (g : Nat → Nat) : (rowOf c g).length = c := by simp [rowOf]
theorem mat_len (r c : Nat) (g : Nat → Nat → Nat) : (mat r c g).length = r := by simp [mat]
theorem rowOf_get {c j : Nat} (h : j < c) (g : Nat → Nat) : rd (rowOf c g) (j : Int) = ((g j : Nat) : Int) := by
  unfold rd rowOf
  rw [Int.toNat_natCast, List.getD_eq_getElem?_getD, List.getElem?_map, List.getElem?_range h]
  rfl
theorem mat_row {r i : Nat} (h : i < r) (c : Nat) (g : Nat → Nat → Nat) : rd_L1 (mat r c g) (i : Int) = rowOf c (g i) := by
  unfold rd_L1 mat
  rw [Int.toNat_natCast, List.getD_eq_getElem?_getD, List.getElem?_map, List.getElem?_range h]
  rfl
theorem rowOf_congr {c : Nat} {f g : Nat → Nat} (h : ∀ j, j < c → f j = g j) : rowOf c f = rowOf c g := by
  unfold rowOf
  apply List.map_congr_left
  intro j hj
  rw [h j (List.mem_range.1 hj)]
theorem mat_congr {r c : Nat} {f g : Nat → Nat → Nat} (h : ∀ i j, i < r → j < c → f i j = g i j) : mat r c f = mat r c g := by
  unfold mat
  apply List.map_congr_left
  intro i hi
  exact rowOf_congr (fun j hj => h i j (List.mem_range.1 hi) hj)
theorem rowOf_set {c j : Nat} (g : Nat → Nat) (v : Nat) : (rowOf c g).set j ((v : Nat) : Int) = rowOf c (fun b => if b = j then v else g b) := by
  apply List.ext_getElem?
  intro k
  rw [List.getElem?_set]
  unfold rowOf
  by_cases hk : k < c
  · rw [List.getElem?_map, List.getElem?_map, List.getElem?_range hk]
    by_cases e : j = k
    · subst e
      simp [hk]
    · simp [e, Ne.symm e]
  · rw [List.getElem?_map, List.getElem?_map, List.getElem?_eq_none (by simpa using hk)]
    simp [hk]
    intro e; omega
theorem mat_set {r c i : Nat} (hi : i < r) (g : Nat → Nat → Nat) (f : Nat → Nat) : (mat r c g).set i (rowOf c f) = mat r c (fun a => if a = i then f else g a) := by
  apply List.ext_getElem?
  intro k
  rw [List.getElem?_set]
  unfold mat
  by_cases hk : k < r
  · rw [List.getElem?_map, List.getElem?_map, List.getElem?_range hk]
    by_cases e : i = k
    · subst e
      simp [hk]
    · simp [e, Ne.symm e]
  · rw [List.getElem?_map, List.getElem?_map, List.getElem?_eq_none (by simpa using hk)]
    simp [hk]
    intro e; omega
/-- A store into one element. -/
theorem mat_put {r c i : Nat} (hi : i < r) (j : Nat) (g : Nat → Nat → Nat) (v : Nat) : (mat r c g).set i ((rd_L1 (mat r c g) (i : Int)).set j ((v : Nat) : Int)) = mat r c (fun a b => if a = i ∧ b = j then v else g a b) := by
  rw [mat_row hi, rowOf_set, mat_set hi]
  apply mat_congr
  intro a b _ _
  by_cases e : a = i
  · subst e; simp
  · simp [e]
theorem replicate_mat (r c : Nat) : List.replicate r (List.replicate c (0 : Int)) = mat r c (fun _ _ => 0) := by
  unfold mat rowOf
  simp [List.map_const']
end Go.Proofs.Ytidogckochpbgaa.R

/- Sums and determinants over a field in which a + a = 0. -/
namespace LA
class Fld (F : Type) extends Add F, Mul F, Zero F, One F where
  iv : F → F
  add_comm : ∀ a b : F, a + b = b + a
  add_assoc : ∀ a b c : F, a + b + c = a + (b + c)
  add_zero : ∀ a : F, a + 0 = a
  add_self : ∀ a : F, a + a = 0
  mul_comm : ∀ a b : F, a * b = b * a
  mul_assoc : ∀ a b c : F, a * b * c = a * (b * c)
  mul_one : ∀ a : F, a * 1 = a
  mul_add : ∀ a b c : F, a * (b + c) = a * b + a * c
  one_ne : (1 : F) ≠ 0
  mul_iv : ∀ a : F, a ≠ 0 → a * iv a = 1
  dec : ∀ a b : F, Decidable (a = b)
open Fld
variable {F : Type} [Fld F]
instance : DecidableEq F := fun a b => Fld.dec a b
instance : Std.Associative (α := F) (· + ·) := ⟨Fld.add_assoc⟩
instance : Std.Commutative (α := F) (· + ·) := ⟨Fld.add_comm⟩
instance : Std.Associative (α := F) (· * ·) := ⟨Fld.mul_assoc⟩
instance : Std.Commutative (α := F) (· * ·) := ⟨Fld.mul_comm⟩
theorem zero_add (a : F) : 0 + a = a := by rw [Fld.add_comm, Fld.add_zero]
theorem one_mul (a : F) : 1 * a = a := by rw [Fld.mul_comm, Fld.mul_one]
theorem add_mul (a b c : F) : (a + b) * c = a * c + b * c := by rw [Fld.mul_comm, Fld.mul_add, Fld.mul_comm c a, Fld.mul_comm c b]
theorem add_cancel {a b c : F} (h : a + b = a + c) : b = c := by
  have e : a + (a + b) = a + (a + c) := by rw [h]
  rwa [← Fld.add_assoc, ← Fld.add_assoc, Fld.add_self, zero_add, zero_add] at e
theorem mul_zero (a : F) : a * 0 = 0 := by
  have h : a * 0 + a * 0 = a * 0 + 0 := by rw [← Fld.mul_add, Fld.add_zero, Fld.add_zero]
  exact add_cancel h
theorem zero_mul (a : F) : 0 * a = 0 := by rw [Fld.mul_comm, mul_zero]
theorem add_add (a b c d : F) : a + b + (c + d) = a + c + (b + d) := by ac_rfl
/-! ### sums -/
/-- f 0 + .. + f (n - 1). -/
def sm : Nat → (Nat → F) → F
  | 0, _ => 0
  | n + 1, f => sm n f + f n
theorem sm_congr {n : Nat} {f g : Nat → F} (h : ∀ i, i < n → f i = g i) : sm n f = sm n g := by
  induction n with
  | zero => rfl
  | succ n ih => rw [sm, sm, ih (fun i hi => h i (by omega)), h n (by omega)]
theorem sm_zero (n : Nat) : sm n (fun _ => (0 : F)) = 0 := by
  induction n with
  | zero => rfl
  | succ n ih => rw [sm, ih, Fld.add_zero]
theorem sm_none {n : Nat} {f : Nat → F} (h : ∀ i, i < n → f i = 0) : sm n f = 0 := by rw [sm_congr h, sm_zero]
theorem sm_add (n : Nat) (f g : Nat → F) : sm n (fun i => f i + g i) = sm n f + sm n g := by
  induction n with
  | zero => rw [sm, sm, sm, Fld.add_zero]
  | succ n ih => rw [sm, sm, sm, ih, add_add]
theorem sm_mul (n : Nat) (a : F) (f : Nat → F) : sm n (fun i => a * f i) = a * sm n f := by
  induction n with
  | zero => rw [sm, sm, mul_zero]
  | succ n ih => rw [sm, sm, ih, Fld.mul_add]
theorem sm_mul_right (n : Nat) (a : F) (f : Nat → F) : sm n (fun i => f i * a) = sm n f * a := by
  rw [Fld.mul_comm, ← sm_mul]
  exact sm_congr (fun i _ => Fld.mul_comm _ _)
theorem sm_comm (n m : Nat) (f : Nat → Nat → F) : sm n (fun i => sm m (f i)) = sm m (fun j => sm n (fun i => f i j)) := by
  induction n with
  | zero => rw [sm]; exact (sm_none (fun _ _ => rfl)).symm
  | succ n ih => rw [sm, ih, ← sm_add]; rfl
theorem sm_one {n i : Nat} (hi : i < n) {f : Nat → F} (h : ∀ j, j < n → j ≠ i → f j = 0) : sm n f = f i := by
  induction n with
  | zero => omega
  | succ n ih =>
    rw [sm]
    by_cases e : i = n
    · subst e
      rw [sm_none (fun j hj => h j (by omega) (by omega)), zero_add]
    · rw [ih (by omega) (fun j hj hji => h j (by omega) hji), h n (by omega) (fun e' => e e'.symm), Fld.add_zero]
/-! ### sums over the ways to pick one out of a list -/
section
variable {α : Type}
/-- The sum of f y (the others) over all y of the list. -/
def pk : (α → List α → F) → List α → F
  | _, [] => 0
  | f, x :: xs => f x xs + pk (fun y ys => f y (x :: ys)) xs
/-- The sum over the ways to pick two, one after the other. -/
def pk2 (f : α → α → List α → F) (l : List α) : F := pk (fun x xs => pk (fun y ys => f x y ys) xs) l
end
/-! ### determinants: of a list of rows, at a list of columns -/
/-- The sum over all ways to choose a column for each row, none twice, of the products. -/
def D : List (Nat → F) → List Nat → F
  | [], _ => 1
  | r :: rs, cs => pk (fun c rest => r c * D rs rest) cs
/-- The determinant of the first n rows and columns. -/
def det (n : Nat) (A : Nat → Nat → F) : F := D ((List.range n).map A) (List.range n)
/-- A row times a matrix, m cells long. -/
def vm (m : Nat) (v : Nat → F) (B : Nat → Nat → F) : Nat → F := fun c => sm m (fun k => v k * B k c)
/-- The product of matrices; m: how many columns the first has. -/
def mm (m : Nat) (A B : Nat → Nat → F) : Nat → Nat → F := fun i => vm m (A i) B
def one : Nat → Nat → F := fun i j => if i = j then 1 else 0
theorem mm_assoc (m k : Nat) (A B C : Nat → Nat → F) : mm k (mm m A B) C = mm m A (mm k B C) := by
  funext i c
  show sm k (fun l => sm m (fun j => A i j * B j l) * C l c) = sm m (fun j => A i j * sm k (fun l => B j l * C l c))
  simp only [← sm_mul, ← sm_mul_right, Fld.mul_assoc]
  exact sm_comm _ _ _
theorem one_mm {m : Nat} (A : Nat → Nat → F) {i : Nat} (hi : i < m) (c : Nat) : mm m one A i c = A i c := by
  show sm m (fun k => one i k * A k c) = _
  rw [sm_one hi (fun j _ hj => by unfold one; rw [if_neg (Ne.symm hj), zero_mul])]
  unfold one; rw [if_pos rfl, one_mul]
end LA

/- Gauss and Jordan: the reduced form, its only one; what it says of the determinant, the inverse, the rank. -/
namespace LA
set_option linter.unusedVariables false
set_option linter.unusedSectionVars false
open Fld
variable {F : Type} [Fld F]
/-- The first row from top on, below m, whose cell in column c is not 0. -/
def fp (A : Nat → Nat → F) (c m : Nat) : Nat → Nat → Option Nat
  | 0, _ => none
  | n + 1, r => if r < m then (if A r c = 0 then fp A c m n (r + 1) else some r) else none
/-- Two rows change places. -/
def sw (A : Nat → Nat → F) (i j : Nat) : Nat → Nat → F := fun a => if a = i then A j else if a = j then A i else A a
/-- Row t is brought to 1 in column c. -/
def scl (A : Nat → Nat → F) (t c : Nat) : Nat → Nat → F := fun a => if a = t then fun j => iv (A t c) * A t j else A a
/-- The rows but t are brought to 0 in column c by row t. -/
def clr (A : Nat → Nat → F) (t c : Nat) : Nat → Nat → F := fun a => if a = t then A t else fun j => A a j + A a c * A t j
/-- One column's turn. -/
def turn (m : Nat) (s : (Nat → Nat → F) × List Nat × F) (c : Nat) : (Nat → Nat → F) × List Nat × F :=
  match fp s.1 c m m s.2.1.length with
  | none => (s.1, s.2.1, 0)
  | some r => (clr (scl (sw s.1 s.2.1.length r) s.2.1.length c) s.2.1.length c, s.2.1 ++ [c], s.2.2 * s.1 r c)
/-- The first n columns' turns. -/
def gj (m : Nat) (A : Nat → Nat → F) : Nat → (Nat → Nat → F) × List Nat × F
  | 0 => (A, [], 1)
  | n + 1 => turn m (gj m A n) n
/-- A is made of B's rows, m of them. -/
def Of (w k m : Nat) (A B : Nat → Nat → F) : Prop := ∃ X : Nat → Nat → F, ∀ i j, i < k → j < w → A i j = mm m X B i j
theorem Of.refl (w m : Nat) (A : Nat → Nat → F) : Of w m m A A := ⟨one, fun i j hi _ => (one_mm A hi j).symm⟩
theorem Of.trans {w k m n : Nat} {A B C : Nat → Nat → F} (h : Of w k m A B) (h' : Of w m n B C) : Of w k n A C := by
  obtain ⟨X, hX⟩ := h
  obtain ⟨Y, hY⟩ := h'
  refine ⟨mm m X Y, fun i j hi hj => ?_⟩
  rw [hX i j hi hj, mm_assoc]
  exact sm_congr (fun l hl => by rw [hY l j hl hj])
theorem Of.row {w k m : Nat} {A B : Nat → Nat → F} (h : ∀ i, i < k → ∃ x : Nat → F, ∀ j, j < w → A i j = vm m x B j) : Of w k m A B := by
  refine ⟨fun i => if h' : i < k then Classical.choose (h i h') else fun _ => 0, fun i j hi hj => ?_⟩
  show _ = vm m (if h' : i < k then Classical.choose (h i h') else fun _ => 0) B j
  rw [dif_pos hi]
  exact Classical.choose_spec (h i hi) j hj
/-- What holds when the first c columns have had their turns. -/
structure Red (m w c : Nat) (A : Nat → Nat → F) (ps : List Nat) : Prop where
  le : ps.length ≤ m
  rise : ps.Pairwise (· < ·)
  below : ∀ p, p ∈ ps → p < c
  lead : ∀ i (h : i < ps.length), A i ps[i] = 1
  clean : ∀ i (h : i < ps.length) a, a < m → a ≠ i → A a ps[i] = 0
  left : ∀ i (h : i < ps.length) j, j < ps[i] → A i j = 0
  rest : ∀ a j, ps.length ≤ a → a < m → j < c → A a j = 0
/-! ### the reduced form is the only one -/
section
variable {m w : Nat} {A : Nat → Nat → F} {ps : List Nat}
end
end LA

/- The field of 256 elements as a field in LinAlg's sense; matrices over it as lists of lists. -/
namespace Go.Proofs.Ytidogckochpbgaa.R
open Go.RowKit Go.Proofs.YtidogckochpbgaaW.PrintWords Go.Proofs.YtidogckochpbgaaW.PrintLast Go.Proofs.YtidogckochpbgaaW.PrintMore Go.Proofs.Ytidogckochpbgaa.A GP
set_option linter.unusedVariables false
set_option linter.unusedSimpArgs false

/-- The field of 256 elements. -/
structure G8 where
  v : Nat
  lt : v < 256
theorem G8.ext {a b : G8} (h : a.1 = b.1) : a = b := by
  cases a; cases b; cases h; rfl
instance : LA.Fld G8 where
  add a b := ⟨a.1 ^^^ b.1, Nat.xor_lt_two_pow (n := 8) a.2 b.2⟩
  mul a b := ⟨m8 a.1 b.1, m8_lt _ _⟩
  zero := ⟨0, by decide⟩
  one := ⟨1, by decide⟩
  iv a := ⟨i8 a.1, i8_lt _⟩
  add_comm a b := G8.ext (Nat.xor_comm _ _)
  add_assoc a b c := G8.ext (Nat.xor_assoc _ _ _)
  add_zero a := G8.ext (Nat.xor_zero _)
  add_self a := G8.ext (Nat.xor_self _)
  mul_comm a b := G8.ext (fm_comm 285 _ _)
  mul_assoc a b c := G8.ext (fm_assoc (by decide) _ _ _)
  mul_one a := G8.ext (fm_one irr8 bl285 a.2)
  mul_add a b c := G8.ext (fm_xor_right (by decide) _ _ _)
  one_ne h := absurd (congrArg G8.v h) (show ¬ (1 : Nat) = 0 by decide)
  mul_iv a h := G8.ext (by
    have h0 : a.1 ≠ 0 := fun e => h (G8.ext e)
    show fm 285 a.1 (fpow 285 a.1 254) = 1
    rw [fm_comm]
    exact fm_inv irr8 bl285 (d := 8) a.2 h0)
  dec a b := decidable_of_iff (a.1 = b.1) ⟨G8.ext, fun h => by rw [h]⟩
theorem g8_eq0 {a : G8} : a = 0 ↔ a.1 = 0 := ⟨fun h => by rw [h]; rfl, fun h => G8.ext h⟩
/-- A number as an element. -/
def t8 (n : Nat) : G8 := ⟨n % 256, Nat.mod_lt _ (by decide)⟩
theorem t8_val {n : Nat} (h : n < 256) : (t8 n).1 = n := Nat.mod_eq_of_lt h
/-- A matrix over the field as a list of lists. -/
def mt (r c : Nat) (A : Nat → Nat → G8) : List (List Int) := mat r c fun i j => (A i j).1
/-- A row over the field. -/
def rw8 (c : Nat) (v : Nat → G8) : List Int := rowOf c fun j => (v j).1
theorem mt_len (r c : Nat) (A : Nat → Nat → G8) : (mt r c A).length = r := mat_len _ _ _
theorem rw8_len (c : Nat) (v : Nat → G8) : (rw8 c v).length = c := rowOf_len _ _
theorem mt_row {r i : Nat} (h : i < r) (c : Nat) (A : Nat → Nat → G8) : rd_L1 (mt r c A) (i : Int) = rw8 c (A i) := mat_row h c _
theorem rw8_get {c j : Nat} (h : j < c) (v : Nat → G8) : rd (rw8 c v) (j : Int) = ((v j).1 : Int) := rowOf_get h _
theorem mt_congr {r c : Nat} {A B : Nat → Nat → G8} (h : ∀ i j, i < r → j < c → A i j = B i j) : mt r c A = mt r c B := mat_congr (fun i j hi hj => by rw [h i j hi hj])
theorem mt_put {r c i : Nat} (hi : i < r) (j : Nat) (A : Nat → Nat → G8) (v : G8) : (mt r c A).set i ((rd_L1 (mt r c A) (i : Int)).set j ((v.1 : Nat) : Int)) = mt r c (fun a b => if a = i ∧ b = j then v else A a b) := by
  unfold mt
  rw [mat_put hi]
  exact mat_congr (fun a b _ _ => by by_cases e : a = i ∧ b = j <;> simp [e])
end Go.Proofs.Ytidogckochpbgaa.R
