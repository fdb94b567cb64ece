/- The field of 2^d elements as residues of polynomials over GF(2), for any irreducible modulus; what can be run by the kernel; the two moduli 285 and 65581. Plain Lean. -/
import Derived.Test.YtklkcenffajfeaaPoly
set_option linter.unusedVariables false
set_option linter.unusedSectionVars false
namespace GP

/-! ### what the kernel runs -/
def clf : Nat → Nat → Nat → Nat
  | 0, _, _ => 0
  | n + 1, a, b => (if b % 2 = 1 then a else 0) ^^^ (2 * clf n a (b / 2))
theorem clf_eq : ∀ (n a b : Nat), b < 2 ^ n → clf n a b = cl a b := by
  intro n
  induction n with
  | zero => intro a b h; have : b = 0 := by omega
            subst this; rw [clf, cl_zero]
  | succ n ih => intro a b h; rw [clf, cl_step, ih a (b / 2) (by rw [Nat.pow_succ] at h; omega)]
def pmf : Nat → Nat → Nat → Nat
  | 0, a, _ => a
  | n + 1, a, b => if Nat.log2 a < Nat.log2 b then a else pmf n (a ^^^ b <<< (Nat.log2 a - Nat.log2 b)) b
theorem bl_log {x : Nat} (h : x ≠ 0) : bl x = x.log2 + 1 := by unfold bl; rw [if_neg h]
theorem pmod_zero_left (b : Nat) : pmod 0 b = 0 := by
  by_cases hb : b = 0
  · subst hb; unfold pmod; rw [pdm_zero]
  · exact pmod_small (by rw [bl_zero]; exact bl_pos.2 hb)
theorem pmf_eq {b : Nat} (hb : 2 ≤ b) : ∀ (n a : Nat), bl a ≤ n → pmf n a b = pmod a b := by
  have hb0 : b ≠ 0 := by omega
  have hbl := bl_log hb0
  have hb2 : 1 < bl b := lt_bl.2 hb
  intro n
  induction n with
  | zero => intro a h; have : a = 0 := bl_eq_zero.1 (by omega)
            subst this; rw [pmf, pmod_zero_left]
  | succ n ih =>
    intro a h
    rw [pmf]
    by_cases ha : a = 0
    · subst ha
      rw [if_pos (by rw [show Nat.log2 0 = 0 from rfl]; omega), pmod_zero_left]
    · have hal := bl_log ha
      by_cases hlt : Nat.log2 a < Nat.log2 b
      · rw [if_pos hlt, pmod_small (by omega)]
      · rw [if_neg hlt, Nat.shiftLeft_eq]
        have hle : bl b ≤ bl a := by omega
        have e1 : Nat.log2 a - Nat.log2 b = bl a - bl b := by omega
        rw [e1, ih _ (by have := step_lt hb0 hle; omega)]
        have hst := pdm_step hb0 hle
        unfold pmod; rw [hst]
def mulf (p a b : Nat) : Nat := pmf 32 (clf 16 a b) p
def powf (p : Nat) : Nat → Nat → Nat → Nat
  | 0, _, _ => 1
  | n + 1, a, e => if e % 2 = 1 then mulf p (powf p n (mulf p a a) (e / 2)) a else powf p n (mulf p a a) (e / 2)

theorem mod2_succ (b i : Nat) : b % 2 ^ (i + 1) = (b % 2 ^ i) ^^^ (if b.testBit i then 2 ^ i else 0) := by
  apply Nat.eq_of_testBit_eq
  intro j
  rw [Nat.testBit_mod_two_pow, Nat.testBit_xor, Nat.testBit_mod_two_pow]
  by_cases hb : b.testBit i = true
  · rw [if_pos hb, Nat.testBit_two_pow]
    by_cases e : i = j
    · subst e; simp [hb]
    · by_cases hj : j < i
      · simp [hj, e, show j < i + 1 by omega]
      · simp [hj, e, show ¬ j < i + 1 by omega]
  · rw [if_neg hb, Nat.zero_testBit]
    by_cases e : i = j
    · subst e; simp [hb]
    · by_cases hj : j < i
      · simp [hj, show j < i + 1 by omega]
      · simp [hj, show ¬ j < i + 1 by omega]
theorem cl_lt2 {a b m n : Nat} (ha : a < 2 ^ m) (hb : b < 2 ^ n) : cl a b < 2 ^ (m + n) := by
  by_cases h0 : a = 0
  · subst h0; rw [zero_cl]; exact Nat.two_pow_pos _
  · by_cases h1 : b = 0
    · subst h1; rw [cl_zero]; exact Nat.two_pow_pos _
    · have := bl_cl h0 h1
      have := bl_le.2 ha
      have := bl_le.2 hb
      exact bl_le.1 (by omega)
/-- One step of a division from the top: bit i is taken off by the modulus, shifted. -/
theorem top_step {p q i d : Nat} (hq : bl q = d + 1) (hi : d ≤ i) (hp : bl p ≤ i + 1) (hb : p.testBit i = true) : bl (p ^^^ q * 2 ^ (i - d)) ≤ i := by
  have hp1 := bl_of_bit hb
  have e := bl_shift (x := q) (bl_pos.1 (by omega)) (i - d)
  have := bl_xor_lt (x := p) (y := q * 2 ^ (i - d)) (by omega) (bl_pos.1 (by omega))
  omega
theorem top_none {p i : Nat} (hp : bl p ≤ i + 1) (hb : ¬ p.testBit i = true) : bl p ≤ i := by
  by_cases h : bl p = i + 1
  · exact absurd (top_bit h) hb
  · omega
/-! ### the field -/
def fm (p a b : Nat) : Nat := pmod (cl a b) p
def fpow (p a n : Nat) : Nat := pmod (pp a n) p
theorem fm_comm (p a b : Nat) : fm p a b = fm p b a := by unfold fm; rw [cl_comm]
theorem fm_xor_left {p : Nat} (hp : p ≠ 0) (a b c : Nat) : fm p (a ^^^ b) c = fm p a c ^^^ fm p b c := by unfold fm; rw [cl_xor_left, pmod_xor hp]
theorem fm_xor_right {p : Nat} (hp : p ≠ 0) (a b c : Nat) : fm p a (b ^^^ c) = fm p a b ^^^ fm p a c := by unfold fm; rw [cl_xor_right, pmod_xor hp]
theorem fm_zero (p a : Nat) : fm p a 0 = 0 := by unfold fm; rw [cl_zero, pmod_zero_left]
theorem zero_fm (p a : Nat) : fm p 0 a = 0 := by unfold fm; rw [zero_cl, pmod_zero_left]
theorem fm_assoc {p : Nat} (hp : p ≠ 0) (a b c : Nat) : fm p (fm p a b) c = fm p a (fm p b c) := by
  unfold fm; rw [pmod_cl_left hp, pmod_cl_right hp, cl_assoc]
theorem fm_left_comm {p : Nat} (hp : p ≠ 0) (a b c : Nat) : fm p a (fm p b c) = fm p b (fm p a c) := by
  rw [← fm_assoc hp, fm_comm p a b, fm_assoc hp]
theorem fm_mod_left {p : Nat} (hp : p ≠ 0) (a b : Nat) : fm p (pmod a p) b = fm p a b := by unfold fm; rw [pmod_cl_left hp]
theorem fm_mod_right {p : Nat} (hp : p ≠ 0) (a b : Nat) : fm p a (pmod b p) = fm p a b := by unfold fm; rw [pmod_cl_right hp]
theorem sq_fm {p : Nat} (hp : p ≠ 0) (a b : Nat) : fm p (a ^^^ b) (a ^^^ b) = fm p a a ^^^ fm p b b := by unfold fm; rw [sq_xor, pmod_xor hp]
theorem fpow_zero (p a : Nat) : fpow p a 0 = pmod 1 p := rfl
theorem fpow_succ {p : Nat} (hp : p ≠ 0) (a n : Nat) : fpow p a (n + 1) = fm p (fpow p a n) a := by unfold fpow fm; rw [pp_succ, pmod_cl_left hp]
theorem fpow_add {p : Nat} (hp : p ≠ 0) (a m n : Nat) : fpow p a (m + n) = fm p (fpow p a m) (fpow p a n) := by
  unfold fpow fm; rw [pp_add, pmod_cl_left hp, pmod_cl_right hp]
theorem fpow_mul {p : Nat} (hp : p ≠ 0) (a m n : Nat) : fpow p a (m * n) = fpow p (fpow p a m) n := by
  unfold fpow; rw [pp_mul, pp_pmod hp]
theorem fpow_fm {p : Nat} (hp : p ≠ 0) (a b n : Nat) : fpow p (fm p a b) n = fm p (fpow p a n) (fpow p b n) := by
  unfold fpow fm; rw [pp_pmod hp, pp_cl, pmod_cl_left hp, pmod_cl_right hp]
section
variable {p d : Nat} (h : Irr p) (hd : bl p = d + 1)
include hd in
theorem pmod_lt_pow (a : Nat) : pmod a p < 2 ^ d := bl_le.1 (by have := pmod_lt (b := p) (bl_pos.1 (by omega)) a; omega)
include hd in
theorem pmod_id {a : Nat} (ha : a < 2 ^ d) : pmod a p = a := pmod_small (by have := bl_le.2 ha; omega)
include hd in
theorem fm_lt (a b : Nat) : fm p a b < 2 ^ d := pmod_lt_pow hd _
include hd in
theorem fpow_lt (a n : Nat) : fpow p a n < 2 ^ d := pmod_lt_pow hd _
include hd in
theorem one_lt (h : Irr p) : 1 < 2 ^ d := by
  have : 1 < bl p := lt_bl.2 h.1
  have := Nat.pow_le_pow_right (n := 2) (by decide) (show 1 ≤ d by omega)
  omega
include h hd
theorem pmod_one : pmod 1 p = 1 := pmod_id hd (one_lt hd h)
theorem fm_one {a : Nat} (ha : a < 2 ^ d) : fm p a 1 = a := by unfold fm; rw [cl_one, pmod_id hd ha]
theorem one_fm {a : Nat} (ha : a < 2 ^ d) : fm p 1 a = a := by rw [fm_comm, fm_one h hd ha]
theorem fpow_one {a : Nat} (ha : a < 2 ^ d) : fpow p a 1 = a := by unfold fpow; rw [pp_one, pmod_id hd ha]
theorem dv_iff {a : Nat} (ha : a < 2 ^ d) : Dv p a ↔ a = 0 := by
  rw [← pmod_eq_zero h.ne, pmod_id hd ha]
theorem fm_eq_zero {a b : Nat} (ha : a < 2 ^ d) (hb : b < 2 ^ d) : fm p a b = 0 ↔ a = 0 ∨ b = 0 := by
  constructor
  · intro e
    rcases h.prime ((pmod_eq_zero h.ne).1 e) with k | k
    · exact .inl ((dv_iff h hd ha).1 k)
    · exact .inr ((dv_iff h hd hb).1 k)
  · rintro (rfl | rfl)
    · exact zero_fm p b
    · exact fm_zero p a
theorem fm_cancel {a b c : Nat} (hc : c < 2 ^ d) (hc0 : c ≠ 0) (ha : a < 2 ^ d) (hb : b < 2 ^ d) (e : fm p a c = fm p b c) : a = b := by
  have := h.cancel (fun k => hc0 ((dv_iff h hd hc).1 k)) e
  rwa [pmod_id hd ha, pmod_id hd hb] at this
theorem fpow_full {a : Nat} (ha : a < 2 ^ d) (h0 : a ≠ 0) : fpow p a (2 ^ d - 1) = 1 := fermat h hd (fun k => h0 ((dv_iff h hd ha).1 k))
theorem fpow_frob {a : Nat} (ha : a < 2 ^ d) : fpow p a (2 ^ d) = a := by
  have := fermat' h hd a
  rw [pmod_id hd ha] at this
  exact this
/-- The inverse. -/
theorem fm_inv {a : Nat} (ha : a < 2 ^ d) (h0 : a ≠ 0) : fm p (fpow p a (2 ^ d - 2)) a = 1 := by
  have h2 := one_lt hd h
  rw [← fpow_succ h.ne, show 2 ^ d - 2 + 1 = 2 ^ d - 1 by omega, fpow_full h hd ha h0]
theorem inv_unique {a x : Nat} (ha : a < 2 ^ d) (hx : x < 2 ^ d) (e : fm p x a = 1) : x = fpow p a (2 ^ d - 2) := by
  have h0 : a ≠ 0 := by rintro rfl; rw [fm_zero] at e; cases e
  apply fm_cancel h hd ha h0 hx (fpow_lt hd _ _)
  rw [e, fm_inv h hd ha h0]
theorem fpow_ne {a : Nat} (ha : a < 2 ^ d) (h0 : a ≠ 0) (n : Nat) : fpow p a n ≠ 0 := by
  induction n with
  | zero => rw [fpow_zero, pmod_one h hd]; decide
  | succ n ih =>
    rw [fpow_succ h.ne]
    intro e
    rcases (fm_eq_zero h hd (fpow_lt hd a n) ha).1 e with k | k
    · exact ih k
    · exact h0 k
theorem fpow_mod {a : Nat} (ha : a < 2 ^ d) (h0 : a ≠ 0) (n : Nat) : fpow p a n = fpow p a (n % (2 ^ d - 1)) := by
  have e := Nat.div_add_mod n (2 ^ d - 1)
  have : fpow p a (2 ^ d - 1) = 1 := fpow_full h hd ha h0
  conv => lhs; rw [← e]
  rw [fpow_add h.ne, fpow_mul h.ne, this]
  have e1 : fpow p 1 (n / (2 ^ d - 1)) = 1 := by unfold fpow; rw [one_pp, pmod_one h hd]
  rw [e1, one_fm h hd (fpow_lt hd _ _)]
/-- Logarithms: where 2 has the order 2^d - 1. -/
theorem fpow_inj (ho : ∀ j, 1 ≤ j → j < 2 ^ d - 1 → fpow p 2 j ≠ 1) (h2 : 2 < 2 ^ d) : ∀ i j : Nat, i < 2 ^ d - 1 → j < 2 ^ d - 1 → fpow p 2 i = fpow p 2 j → i = j := by
  have key : ∀ i j : Nat, i < j → j < 2 ^ d - 1 → fpow p 2 i = fpow p 2 j → False := by
    intro i j hij hj e
    have e1 : fpow p 2 j = fm p (fpow p 2 (j - i)) (fpow p 2 i) := by rw [← fpow_add h.ne, Nat.sub_add_cancel (by omega)]
    have e2 : fm p 1 (fpow p 2 i) = fm p (fpow p 2 (j - i)) (fpow p 2 i) := by rw [one_fm h hd (fpow_lt hd _ _), ← e1, e]
    have := fm_cancel h hd (fpow_lt hd _ _) (fpow_ne h hd h2 (by decide) i) (one_lt hd h) (fpow_lt hd _ _) e2
    exact ho (j - i) (by omega) (by omega) this.symm
  intro i j hi hj e
  rcases Nat.lt_trichotomy i j with k | k | k
  · exact (key i j k hj e).elim
  · exact k
  · exact (key j i k hi e.symm).elim
theorem fpow_surj (ho : ∀ j, 1 ≤ j → j < 2 ^ d - 1 → fpow p 2 j ≠ 1) (h2 : 2 < 2 ^ d) {a : Nat} (ha : a < 2 ^ d) (h0 : a ≠ 0) : ∃ i, i < 2 ^ d - 1 ∧ fpow p 2 i = a := by
  have hN : ((List.range (2 ^ d - 1)).map (fpow p 2)).Nodup := nodup_map List.nodup_range (by
    intro i hi j hj e
    rw [List.mem_range] at hi hj
    exact fpow_inj h hd ho h2 i j hi hj e)
  have hp := perm_of_subset (m := (List.range (2 ^ d - 1)).map (· + 1)) hN (by
    intro x hx
    obtain ⟨i, _, rfl⟩ := List.mem_map.1 hx
    have h3 := fpow_lt hd 2 i
    have h4 := fpow_ne h hd h2 (by decide) i
    exact List.mem_map.2 ⟨fpow p 2 i - 1, List.mem_range.2 (by omega), by omega⟩) (by simp)
  have : a ∈ (List.range (2 ^ d - 1)).map (· + 1) := List.mem_map.2 ⟨a - 1, List.mem_range.2 (by omega), by omega⟩
  obtain ⟨i, hi, e⟩ := List.mem_map.1 (hp.mem_iff.2 this)
  exact ⟨i, List.mem_range.1 hi, e⟩
end
/-! ### irreducible by trial -/
theorem irr_of_trial {p : Nat} (hp : 2 ≤ bl p) (h : ∀ c, 2 ≤ c → bl c - 1 ≤ (bl p - 1) / 2 → pmod p c ≠ 0) : Irr p := by
  have hp0 : p ≠ 0 := bl_pos.1 (by omega)
  refine ⟨(lt_bl (n := 1)).1 (by omega), ?_⟩
  have key : ∀ d, 2 ≤ bl d → bl d - 1 ≤ (bl p - 1) / 2 → ¬ Dv d p := by
    intro d h1 h2 k
    exact h d ((lt_bl (n := 1)).1 (by omega)) h2 ((pmod_eq_zero (bl_pos.1 (by omega))).2 k)
  intro d e hde
  have hd0 : d ≠ 0 := by rintro rfl; rw [zero_cl] at hde; exact hp0 hde
  have he0 : e ≠ 0 := by rintro rfl; rw [cl_zero] at hde; exact hp0 hde
  have hb := bl_cl hd0 he0
  rw [← hde] at hb
  have hd1 := bl_pos.2 hd0
  have he1 := bl_pos.2 he0
  by_cases h1 : bl d = 1
  · left; have : d < 2 ^ 1 := bl_le.1 (by omega); omega
  · by_cases h2 : bl e = 1
    · right; have : e < 2 ^ 1 := bl_le.1 (by omega); omega
    · exfalso
      by_cases h3 : bl d - 1 ≤ (bl p - 1) / 2
      · exact key d (by omega) h3 ⟨e, by rw [cl_comm]; exact hde⟩
      · exact key e (by omega) (by omega) ⟨d, hde⟩
def trial (p : Nat) : Nat → Bool
  | 0 => true
  | n + 1 => pmf 20 p (n + 2) != 0 && trial p n
theorem trial_to {p : Nat} (hp : bl p ≤ 20) : ∀ n, trial p n = true → ∀ c, 2 ≤ c → c < n + 2 → pmod p c ≠ 0 := by
  intro n
  induction n with
  | zero => intro _ c h1 h2; omega
  | succ n ih =>
    intro h c h1 h2
    rw [trial, Bool.and_eq_true] at h
    by_cases e : c = n + 2
    · subst e
      rw [← pmf_eq h1 20 p hp]
      simpa using h.1
    · exact ih h.2 c h1 (by omega)
theorem bl285 : bl 285 = 8 + 1 := bl_eq (by decide) (by decide)
theorem bl65581 : bl 65581 = 16 + 1 := bl_eq (by decide) (by decide)
theorem irr8 : Irr 285 := irr_of_trial (by rw [bl285]; decide) (by
  intro c h1 h2
  rw [bl285] at h2
  have : c < 2 ^ 5 := bl_le.1 (by omega)
  exact trial_to (by rw [bl285]; decide) 30 (by decide +kernel) c h1 (by omega))
theorem irr16 : Irr 65581 := irr_of_trial (by rw [bl65581]; decide) (by
  intro c h1 h2
  rw [bl65581] at h2
  have : c < 2 ^ 9 := bl_le.1 (by omega)
  exact trial_to (by rw [bl65581]; decide) 510 (by decide +kernel) c h1 (by omega))
theorem mulf_eq {p a b : Nat} (hp : 2 ≤ p) (ha : a < 2 ^ 16) (hb : b < 2 ^ 16) : mulf p a b = fm p a b := by
  unfold mulf fm
  rw [clf_eq 16 a b hb]
  apply pmf_eq hp
  by_cases h0 : a = 0
  · subst h0; rw [zero_cl, bl_zero]; omega
  · by_cases h1 : b = 0
    · subst h1; rw [cl_zero, bl_zero]; omega
    · have := bl_cl h0 h1
      have := bl_le.2 ha
      have := bl_le.2 hb
      omega
theorem powf_eq {p d : Nat} (hp : 2 ≤ p) (hd : bl p = d + 1) (hd16 : d ≤ 16) (h1 : 1 ≤ d) : ∀ (n a e : Nat), e < 2 ^ n → a < 2 ^ d → powf p n a e = fpow p a e := by
  have hp0 : p ≠ 0 := by omega
  have hle : 2 ^ d ≤ 2 ^ 16 := Nat.pow_le_pow_right (by decide) hd16
  intro n
  induction n with
  | zero =>
    intro a e he ha
    have : e = 0 := by omega
    subst this
    rw [powf, fpow_zero, pmod_id hd (by have := Nat.pow_le_pow_right (n := 2) (by decide) h1; omega)]
  | succ n ih =>
    intro a e he ha
    have hsq : mulf p a a = fm p a a := mulf_eq hp (by omega) (by omega)
    have hl := fm_lt hd a a
    have e2 : fpow p (fm p a a) (e / 2) = fpow p a (2 * (e / 2)) := by
      unfold fpow fm; rw [pp_pmod hp0, ← pp_two, ← pp_mul]
    rw [powf, hsq, ih _ _ (by rw [Nat.pow_succ] at he; omega) hl, e2]
    by_cases ho : e % 2 = 1
    · rw [if_pos ho, mulf_eq hp (by have := fpow_lt hd a (2 * (e / 2)); omega) (by omega), ← fpow_succ hp0, show 2 * (e / 2) + 1 = e by omega]
    · rw [if_neg ho, show 2 * (e / 2) = e by omega]
/-! ### the orders of 2 -/
theorem coprime_of_mod {m q : Nat} (h : m % q ≠ 0) (hq : ∀ r, r < q → r ≠ 0 → Nat.gcd r q = 1) (hq0 : 0 < q) : Nat.Coprime m q := by
  unfold Nat.Coprime
  rw [Nat.gcd_comm, Nat.gcd_rec]
  exact hq _ (Nat.mod_lt _ hq0) h
theorem gcd3 : ∀ r, r < 3 → r ≠ 0 → Nat.gcd r 3 = 1 := by decide
theorem gcd5 : ∀ r, r < 5 → r ≠ 0 → Nat.gcd r 5 = 1 := by decide
theorem gcd17 : ∀ r, r < 17 → r ≠ 0 → Nat.gcd r 17 = 1 := by decide
theorem gcd257 : ∀ r, r < 257 → r ≠ 0 → Nat.gcd r 257 = 1 := by decide +kernel
theorem div_of {n m N q r : Nat} (hm : N = n * m) (hqr : N = q * r) (hq : 0 < q) (hmq : m % q = 0) : n ∣ r := by
  obtain ⟨c, rfl⟩ := Nat.dvd_of_mod_eq_zero hmq
  refine ⟨c, ?_⟩
  apply Nat.eq_of_mul_eq_mul_left hq
  rw [← hqr, hm, Nat.mul_left_comm]
theorem full_order16 {n : Nat} (h : n ∣ 65535) (h3 : ¬ n ∣ 21845) (h5 : ¬ n ∣ 13107) (h17 : ¬ n ∣ 3855) (h257 : ¬ n ∣ 255) : n = 65535 := by
  obtain ⟨m, hm⟩ := h
  have c3 := coprime_of_mod (m := m) (fun e => h3 (div_of (r := 21845) hm (by decide) (by decide) e)) gcd3 (by decide)
  have c5 := coprime_of_mod (m := m) (fun e => h5 (div_of (r := 13107) hm (by decide) (by decide) e)) gcd5 (by decide)
  have c17 := coprime_of_mod (m := m) (fun e => h17 (div_of (r := 3855) hm (by decide) (by decide) e)) gcd17 (by decide)
  have c257 := coprime_of_mod (m := m) (fun e => h257 (div_of (r := 255) hm (by decide) (by decide) e)) gcd257 (by decide)
  have d0 : m ∣ 3 * 21845 := ⟨n, by rw [Nat.mul_comm m n, ← hm]⟩
  have d1 : m ∣ 5 * 4369 := c3.dvd_of_dvd_mul_left d0
  have d2 : m ∣ 17 * 257 := c5.dvd_of_dvd_mul_left d1
  have d3 : m ∣ 257 * 1 := c17.dvd_of_dvd_mul_left d2
  have d4 : m ∣ 1 := c257.dvd_of_dvd_mul_left d3
  have : m = 1 := Nat.dvd_one.1 d4
  rw [this, Nat.mul_one] at hm
  exact hm.symm
theorem least_nat {P : Nat → Prop} : ∀ n, P n → ∃ m, m ≤ n ∧ P m ∧ ∀ j, j < m → ¬ P j := by
  intro n
  induction n using Nat.strongRecOn with
  | _ n ih =>
    intro h
    by_cases hx : ∃ j, j < n ∧ P j
    · obtain ⟨j, hj, hP⟩ := hx
      obtain ⟨m, h1, h2, h3⟩ := ih j hj hP
      exact ⟨m, by omega, h2, h3⟩
    · exact ⟨n, Nat.le_refl _, h, fun j hj hP => hx ⟨j, hj, hP⟩⟩
/-- The least exponent divides each. -/
theorem ord_dvd {p d : Nat} (h : Irr p) (hd : bl p = d + 1) {n m : Nat} (hn : 1 ≤ n) (e : fpow p 2 n = 1) (hl : ∀ j, 1 ≤ j → j < n → fpow p 2 j ≠ 1) (hm : fpow p 2 m = 1) : n ∣ m := by
  have e0 := Nat.div_add_mod m n
  have hlt : m % n < n := Nat.mod_lt _ hn
  have h1 : fpow p 2 (m % n) = 1 := by
    rw [← e0, fpow_add h.ne, fpow_mul h.ne, e] at hm
    have e1 : fpow p 1 (m / n) = 1 := by unfold fpow; rw [one_pp, pmod_one h hd]
    rwa [e1, one_fm h hd (fpow_lt hd _ _)] at hm
  apply Nat.dvd_of_mod_eq_zero
  by_cases h0 : m % n = 0
  · exact h0
  · exact absurd h1 (hl _ (by omega) hlt)
theorem ord_not {p d : Nat} (h : Irr p) (hd : bl p = d + 1) {n m : Nat} (e : fpow p 2 n = 1) (hm : fpow p 2 m ≠ 1) : ¬ n ∣ m := by
  rintro ⟨c, rfl⟩
  rw [fpow_mul h.ne, e] at hm
  apply hm
  unfold fpow; rw [one_pp, pmod_one h hd]
theorem ord16 : ∀ j, 1 ≤ j → j < 2 ^ 16 - 1 → fpow 65581 2 j ≠ 1 := by
  have run : ∀ m, m < 2 ^ 16 → powf 65581 16 2 m = fpow 65581 2 m := fun m hm => powf_eq (by decide) bl65581 (by decide) (by decide) 16 2 m hm (by decide)
  have e : fpow 65581 2 65535 = 1 := fpow_full irr16 bl65581 (a := 2) (by decide) (by decide)
  obtain ⟨n, _, ⟨hn1, hn2⟩, hn3⟩ := least_nat (P := fun n => 1 ≤ n ∧ fpow 65581 2 n = 1) 65535 ⟨by decide, e⟩
  have hl : ∀ j, 1 ≤ j → j < n → fpow 65581 2 j ≠ 1 := fun j h1 h2 k => hn3 j h2 ⟨h1, k⟩
  have hdv := ord_dvd irr16 bl65581 hn1 hn2 hl e
  have key : ∀ m, m < 2 ^ 16 → (powf 65581 16 2 m != 1) = true → ¬ n ∣ m := by
    intro m hm hr
    rw [run m hm] at hr
    exact ord_not irr16 bl65581 hn2 (by simpa using hr)
  have : n = 65535 := full_order16 hdv (key 21845 (by decide) (by decide +kernel)) (key 13107 (by decide) (by decide +kernel)) (key 3855 (by decide) (by decide +kernel)) (key 255 (by decide) (by decide +kernel))
  subst this
  exact hl
theorem run8 : ∀ j, j < 255 → 1 ≤ j → (powf 285 8 2 j != 1) = true := by decide +kernel
theorem ord8 : ∀ j, 1 ≤ j → j < 2 ^ 8 - 1 → fpow 285 2 j ≠ 1 := by
  intro j h1 h2
  have := run8 j h2 h1
  rw [powf_eq (by decide) bl285 (by decide) (by decide) 8 2 j (by omega) (by decide)] at this
  simpa using this
end GP
