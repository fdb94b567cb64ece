/- What the printed functions of the reference of layer 2 compute. -/
import Derived.Test.YtkdoilmfchlpdaaZ7
import Derived.Test.YtkdoilmfchlpdaaZ5

namespace Go.Proofs.Ytkdoilmfchlpdaa.R
open Go.RowKit Go.Proofs.YtkdoilmfchlpdaaW.PrintWords Go.Proofs.YtkdoilmfchlpdaaW.PrintLast Go.Proofs.YtkdoilmfchlpdaaW.PrintMore Go.Proofs.Ytkdoilmfchlpdaa.A GP
set_option linter.unusedVariables false
set_option linter.unusedSimpArgs false

theorem bit_u8 {a s : Nat} (ha : a < 256) (hs : s ≤ 8) : Go.bits .and .u8 (shr .u8 a s) 1 = (if a.testBit s then 1 else 0 : Int) := by
  have e : shr .u8 a s = ((a / 2 ^ s : Nat) : Int) := by
    unfold shr
    rw [show IntKind.u8.bits = 8 from rfl, Int.toNat_natCast, Nat.min_eq_left hs]
    simp
  rw [e]
  have h1 : a / 2 ^ s < 256 := Nat.lt_of_le_of_lt (Nat.div_le_self _ _) ha
  have := bits_and8 (a := a / 2 ^ s) (b := 1) h1 (by decide)
  rw [show ((1 : Nat) : Int) = 1 from rfl] at this
  rw [this, Nat.and_one_is_mod, Nat.testBit_eq_decide_div_mod_eq]
  rcases Nat.mod_two_eq_zero_or_one (a / 2 ^ s) with e | e <;> rw [e] <;> simp
theorem shli {a s : Nat} (hs : s ≤ 60) (h : a * 2 ^ s < 2 ^ 62) : shl .i64 a s = ((a * 2 ^ s : Nat) : Int) := by
  unfold shl
  rw [show IntKind.i64.bits = 64 from rfl, Int.toNat_natCast, Nat.min_eq_left (by omega)]
  exact i64_id h
theorem bit_i64 {a s : Nat} (ha : a < 2 ^ 62) (hs : s ≤ 60) : Go.bits .and .i64 (shr .i64 a s) 1 = (if a.testBit s then 1 else 0 : Int) := by
  have e : shr .i64 a s = ((a / 2 ^ s : Nat) : Int) := by
    unfold shr
    rw [show IntKind.i64.bits = 64 from rfl, Int.toNat_natCast, Nat.min_eq_left (by omega)]
    simp
  rw [e]
  have h1 : a / 2 ^ s < 2 ^ 62 := Nat.lt_of_le_of_lt (Nat.div_le_self _ _) ha
  have := bits_andi (a := a / 2 ^ s) (b := 1) h1 (by decide)
  rw [show ((1 : Nat) : Int) = 1 from rfl] at this
  rw [this, Nat.and_one_is_mod, Nat.testBit_eq_decide_div_mod_eq]
  rcases Nat.mod_two_eq_zero_or_one (a / 2 ^ s) with e | e <;> rw [e] <;> simp
theorem r2_top {q p d i : Nat} (hq : bl q = d + 1) (hi : d ≤ i) (hp : bl p ≤ i + 1) (hb : p.testBit i = true) : bl (p ^^^ q * 2 ^ (i - d)) ≤ i := by
  have h1 : p < 2 ^ (i + 1) := bl_le.1 hp
  have h2 : bl (q * 2 ^ (i - d)) = i + 1 := by
    have hq0 : q ≠ 0 := by intro h; rw [h, bl_zero] at hq; omega
    have hp0 : 2 ^ (i - d) ≠ 0 := by have := Nat.two_pow_pos (i - d); omega
    have := bl_cl hp0 hq0
    have e : bl (2 ^ (i - d)) = i - d + 1 := bl_eq (Nat.le_refl _) (Nat.pow_lt_pow_right (by decide) (by omega))
    rw [← pow_cl]
    omega
  have h3 : q * 2 ^ (i - d) < 2 ^ (i + 1) := bl_le.1 (by omega)
  have hx : p ^^^ q * 2 ^ (i - d) < 2 ^ (i + 1) := Nat.xor_lt_two_pow h1 h3
  apply bl_le.2
  have ht : (p ^^^ q * 2 ^ (i - d)).testBit i = false := by
    rw [Nat.testBit_xor, hb]
    have : (q * 2 ^ (i - d)).testBit i = true := by
      have h4 : ¬ q * 2 ^ (i - d) < 2 ^ i := fun h => by have := bl_le.2 h; omega
      rw [Nat.testBit_eq_decide_div_mod_eq, decide_eq_true_eq]
      have h5 : q * 2 ^ (i - d) / 2 ^ i < 2 := (Nat.div_lt_iff_lt_mul (Nat.two_pow_pos i)).2 (by rw [Nat.pow_succ] at h3; omega)
      have h6 : 1 ≤ q * 2 ^ (i - d) / 2 ^ i := (Nat.le_div_iff_mul_le (Nat.two_pow_pos i)).2 (by omega)
      omega
    rw [this]; rfl
  apply Nat.lt_of_not_le
  intro h
  rw [Nat.testBit_eq_decide_div_mod_eq, decide_eq_false_iff_not] at ht
  apply ht
  have h5 : (p ^^^ q * 2 ^ (i - d)) / 2 ^ i < 2 := (Nat.div_lt_iff_lt_mul (Nat.two_pow_pos i)).2 (by rw [Nat.pow_succ] at hx; omega)
  have h6 : 1 ≤ (p ^^^ q * 2 ^ (i - d)) / 2 ^ i := (Nat.le_div_iff_mul_le (Nat.two_pow_pos i)).2 (by omega)
  omega
theorem r2_none {p i : Nat} (hp : bl p ≤ i + 1) (hb : ¬ p.testBit i = true) : bl p ≤ i := by
  have h1 : p < 2 ^ (i + 1) := bl_le.1 hp
  apply bl_le.2
  apply Nat.lt_of_not_le
  intro h
  apply hb
  rw [Nat.testBit_eq_decide_div_mod_eq, decide_eq_true_eq]
  have h5 : p / 2 ^ i < 2 := (Nat.div_lt_iff_lt_mul (Nat.two_pow_pos i)).2 (by rw [Nat.pow_succ] at h1; omega)
  have h6 : 1 ≤ p / 2 ^ i := (Nat.le_div_iff_mul_le (Nat.two_pow_pos i)).2 (by omega)
  omega
/-- The second loop: the remainder from the top down. -/
theorem r2_l1 : ∀ (j p : Nat), j ≤ 7 → bl p ≤ j + 8 → Ev (fun k => culletref02_Mul.l1 k p ((j + 7 : Nat) : Int)) ((pmod p 285 : Nat) : Int) := by
  intro j
  induction j with
  | zero =>
    intro p _ hp
    refine Ev.step (fun k => culletref02_Mul.l1.eq_2 _ _ k) ?_
    have h8 : p < 256 := (bl_le (n := 8)).1 (by omega)
    simp only [if_neg (show ¬ ((0 + 7 : Nat) : Int) ≥ 8 by omega)]
    rw [show ((p : Nat) : Int) % 256 = (p : Nat) by omega, pmod_small (by rw [bl285]; omega)]
    exact Ev.now _
  | succ j ih =>
    intro p hj hp
    refine Ev.step (fun k => culletref02_Mul.l1.eq_2 _ _ k) ?_
    have hp62 : p < 2 ^ 62 := Nat.lt_of_lt_of_le (bl_le.1 hp) (Nat.pow_le_pow_right (by decide) (by omega))
    have hi : IntKind.u64.wrap (((j + 1 + 7 : Nat)) : Int) = ((j + 8 : Nat) : Int) := by rw [u64_wrap_nat (by omega)]
    have hi2 : IntKind.u64.wrap (wrap64 (((j + 1 + 7 : Nat) : Int) - 8)) = ((j : Nat) : Int) := by
      rw [wrap64_id (by omega) (by omega), show ((j + 1 + 7 : Nat) : Int) - 8 = ((j : Nat) : Int) by omega, u64_wrap_nat (by omega)]
    have hi3 : wrap64 (((j + 1 + 7 : Nat) : Int) - 1) = ((j + 7 : Nat) : Int) := by rw [wrap64_id (by omega) (by omega)]; omega
    simp only [if_pos (show ((j + 1 + 7 : Nat) : Int) ≥ 8 by omega), hi, hi2, hi3, if_pos (show (0 : Int) ≤ ((j + 8 : Nat) : Int) by omega), if_pos (show (0 : Int) ≤ ((j : Nat) : Int) by omega), bit_i64 hp62 (show j + 8 ≤ 60 by omega)]
    by_cases hb : p.testBit (j + 8) = true
    · simp only [hb, if_true]
      have hsh : 285 * 2 ^ j < 2 ^ 62 := by
        have : 2 ^ j ≤ 2 ^ 6 := Nat.pow_le_pow_right (by decide) (by omega)
        omega
      have hs := shli (a := 285) (s := j) (by omega) hsh
      rw [show ((285 : Nat) : Int) = 285 from rfl] at hs
      rw [hs, bits_xori hp62 hsh]
      have ht := r2_top (q := 285) (d := 8) (i := j + 8) bl285 (by omega) (by omega) hb
      rw [show j + 8 - 8 = j by omega] at ht
      have := ih (p ^^^ 285 * 2 ^ j) (by omega) (by omega)
      have e : pmod (p ^^^ 285 * 2 ^ j) 285 = pmod p 285 := by
        rw [pmod_xor (by decide), ← pow_cl, pmod_self_mul (by decide), Nat.xor_zero]
      rw [e] at this
      exact this
    · simp only [hb, Bool.false_eq_true, if_false, show ¬ ((0 : Int) = 1) by decide]
      have := r2_none (i := j + 8) (by omega) hb
      exact ih p (by omega) (by omega)
theorem r2_mod_succ (b i : Nat) : b % 2 ^ (i + 1) = (b % 2 ^ i) ^^^ (if b.testBit i then 2 ^ i else 0) := by
  apply Nat.eq_of_testBit_eq
  intro j
  rw [Nat.testBit_xor, Nat.testBit_mod_two_pow, Nat.testBit_mod_two_pow]
  by_cases hb : b.testBit i = true
  · rw [if_pos hb, Nat.testBit_two_pow]
    by_cases e : i = j
    · subst e; simp [hb]
    · have : j < i + 1 ↔ j < i := by omega
      simp [e, this]
  · rw [if_neg hb, Nat.zero_testBit]
    by_cases e : i = j
    · subst e; simp [hb]
    · have : j < i + 1 ↔ j < i := by omega
      simp [this]
theorem r2_l0 {a b : Nat} (ha : a < 256) (hb : b < 256) : ∀ (n i : Nat), 8 - i ≤ n → i ≤ 8 → Ev (fun k => culletref02_Mul.l0 k a b (cl a (b % 2 ^ i) : Nat) i) ((m8 a b : Nat) : Int) := by
  have fin : Ev (fun k => culletref02_Mul.l0 k a b (cl a (b % 2 ^ 8) : Nat) ((8 : Nat) : Int)) ((m8 a b : Nat) : Int) := by
    refine Ev.step (fun k => culletref02_Mul.l0.eq_2 _ _ _ _ k) ?_
    simp only [if_neg (show ¬ ((8 : Nat) : Int) < 8 by omega)]
    rw [Nat.mod_eq_of_lt (show b < 2 ^ 8 from hb)]
    have hl : bl (cl a b) ≤ 15 := by
      by_cases h0 : a = 0
      · subst h0; rw [zero_cl, bl_zero]; omega
      · by_cases h1 : b = 0
        · subst h1; rw [cl_zero, bl_zero]; omega
        · have := bl_cl h0 h1
          have := bl_le.2 (show a < 2 ^ 8 from ha)
          have := bl_le.2 (show b < 2 ^ 8 from hb)
          omega
    exact r2_l1 7 (cl a b) (by omega) (by omega)
  intro n
  induction n with
  | zero => intro i h hi; have : i = 8 := by omega
            subst this; exact fin
  | succ n ih =>
    intro i h hi
    by_cases hlt : i < 8
    · refine Ev.step (fun k => culletref02_Mul.l0.eq_2 _ _ _ _ k) ?_
      have hw : IntKind.u64.wrap ((i : Nat) : Int) = ((i : Nat) : Int) := u64_wrap_nat (by omega)
      have h1 : cl a (b % 2 ^ i) < 2 ^ 62 := Nat.lt_of_lt_of_le (cl_lt2 (show a < 2 ^ 8 from ha) (Nat.mod_lt _ (Nat.two_pow_pos i))) (Nat.pow_le_pow_right (by decide) (by omega))
      have h2 : a * 2 ^ i < 2 ^ 62 := by
        have h3 : a * 2 ^ i < 2 ^ 8 * 2 ^ i := Nat.mul_lt_mul_of_pos_right ha (Nat.two_pow_pos i)
        rw [← Nat.pow_add] at h3
        exact Nat.lt_of_lt_of_le h3 (Nat.pow_le_pow_right (by decide) (by omega))
      simp only [if_pos (show ((i : Nat) : Int) < 8 by omega), hw, if_pos (show (0 : Int) ≤ ((i : Nat) : Int) by omega), bit_u8 hb (show i ≤ 8 by omega)]
      rw [wrap64_id (n := ((a : Nat) : Int)) (by omega) (by omega), shli (by omega) h2, bits_xori h1 h2, wrap64_id (by omega) (by omega)]
      have := ih (i + 1) (by omega) (by omega)
      rw [r2_mod_succ, cl_xor_right] at this
      by_cases hbit : b.testBit i = true
      · simp only [hbit, if_true]
        rw [if_pos hbit, cl_pow] at this
        exact this
      · simp only [hbit, if_false, Bool.false_eq_true, show ¬ ((0 : Int) = 1) by decide]
        rw [if_neg hbit, cl_zero, Nat.xor_zero] at this
        exact this
    · have : i = 8 := by omega
      subst this; exact fin
theorem RefMul8 {a b : Nat} (ha : a < 256) (hb : b < 256) : Ev (fun k => culletref02_Mul.f k a b) ((m8 a b : Nat) : Int) := by
  unfold culletref02_Mul.f
  have := r2_l0 ha hb 8 0 (by omega) (by omega)
  rw [Nat.pow_zero, Nat.mod_one, cl_zero] at this
  exact this
theorem RefInv8_l0 {a : Nat} (ha : a < 256) : ∀ n i : Nat, 7 - i ≤ n → i ≤ 7 → Ev (fun k => culletref02_Inv.l0 k ((p8 a (2 ^ (i + 1)) : Nat) : Int) ((p8 a (2 ^ (i + 1) - 2) : Nat) : Int) (i : Int)) (((i8 a : Nat) : Int), (0 : Int)) := by
  have hlt : ∀ n, p8 a n < 256 := fun n => fpow_lt bl285 a n
  have fin : Ev (fun k => culletref02_Inv.l0 k ((p8 a (2 ^ (7 + 1)) : Nat) : Int) ((p8 a (2 ^ (7 + 1) - 2) : Nat) : Int) ((7 : Nat) : Int)) (((i8 a : Nat) : Int), (0 : Int)) := by
    refine Ev.step (fun k => culletref02_Inv.l0.eq_2 _ _ _ k) ?_
    simp only [if_neg (show ¬ ((7 : Nat) : Int) < 7 by omega)]
    exact Ev.now _
  intro n
  induction n with
  | zero => intro i h hi; have : i = 7 := by omega
            subst this; exact fin
  | succ n ih =>
    intro i h hi
    by_cases hl : i < 7
    · refine Ev.step (fun k => culletref02_Inv.l0.eq_2 _ _ _ k) ?_
      simp only [if_pos (show ((i : Nat) : Int) < 7 by omega)]
      refine Ev.bind (RefMul8 (hlt _) (hlt _)) ?_
      refine Ev.bind (RefMul8 (hlt _) (hlt _)) ?_
      have e1 : m8 (p8 a (2 ^ (i + 1) - 2)) (p8 a (2 ^ (i + 1))) = p8 a (2 ^ (i + 1 + 1) - 2) := by
        have h2 : 2 ≤ 2 ^ (i + 1) := by have := Nat.pow_le_pow_right (n := 2) (by decide) (show 1 ≤ i + 1 by omega); omega
        unfold p8 m8
        rw [← fpow_add (by decide)]
        congr 1
        rw [Nat.pow_succ]; omega
      have e2 : m8 (p8 a (2 ^ (i + 1))) (p8 a (2 ^ (i + 1))) = p8 a (2 ^ (i + 1 + 1)) := by
        unfold p8 m8
        rw [← fpow_add (by decide)]
        congr 1
        rw [Nat.pow_succ]; omega
      rw [e1, e2, wrap64_id (by omega) (by omega)]
      exact ih (i + 1) (by omega) (by omega)
    · have : i = 7 := by omega
      subst this; exact fin
theorem RefInv8 {a : Nat} (ha : a < 256) (h0 : a ≠ 0) : Ev (fun k => culletref02_Inv.f k a) (((i8 a : Nat) : Int), (0 : Int)) := by
  unfold culletref02_Inv.f
  simp only [if_neg (show ¬ ((a : Nat) : Int) = 0 by omega)]
  refine Ev.bind (RefMul8 ha ha) ?_
  have := RefInv8_l0 ha 7 0 (by omega) (by omega)
  have e1 : m8 a a = p8 a (2 ^ (0 + 1)) := by
    unfold p8 m8
    rw [show 2 ^ (0 + 1) = 1 + 1 from rfl, fpow_add (by decide), fpow_one irr8 bl285 ha]
  have e2 : p8 a (2 ^ (0 + 1) - 2) = 1 := by unfold p8; rw [show 2 ^ (0 + 1) - 2 = 0 from rfl, fpow_zero, pmod_one irr8 bl285]
  rw [← e1, e2] at this
  exact this
end Go.Proofs.Ytkdoilmfchlpdaa.R
