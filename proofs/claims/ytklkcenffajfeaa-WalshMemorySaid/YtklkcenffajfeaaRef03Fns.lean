/- What the printed functions of the reference of layer 3 compute. -/
import Derived.Test.YtklkcenffajfeaaGf16Fns
import Derived.Test.YtklkcenffajfeaaAx1
import Derived.Test.YtklkcenffajfeaaAx3
namespace Go.Proofs.Ytklkcenffajfeaa.R
open Go.RowKit Go.Proofs.YtklkcenffajfeaaW.PrintWords Go.Proofs.YtklkcenffajfeaaW.PrintLast Go.Proofs.YtklkcenffajfeaaW.PrintMore Go.Proofs.Ytklkcenffajfeaa.A GP
set_option linter.unusedVariables false
set_option linter.unusedSimpArgs false

theorem u32_id {n : Nat} (h : n < 2 ^ 32) : IntKind.u32.wrap (n : Int) = n := by rw [IntKind.wrap_u32]; omega
theorem bits_xor32 {a b : Nat} (ha : a < 2 ^ 32) (hb : b < 2 ^ 32) : Go.bits .xor .u32 a b = ((a ^^^ b : Nat) : Int) := (bits_nat3 .u32 ha hb fun _ h => u32_id h).1
theorem shl32 {a s : Nat} (hs : s ≤ 32) (h : a * 2 ^ s < 2 ^ 32) : shl .u32 a s = ((a * 2 ^ s : Nat) : Int) := by
  unfold shl
  rw [show IntKind.u32.bits = 32 from rfl, Int.toNat_natCast, Nat.min_eq_left hs]
  exact u32_id h
theorem bit_u16 {a s : Nat} (ha : a < 65536) (hs : s ≤ 16) : Go.bits .and .u16 (shr .u16 a s) 1 = (if a.testBit s then 1 else 0 : Int) := by
  have e : shr .u16 a s = ((a / 2 ^ s : Nat) : Int) := by
    unfold shr
    rw [show IntKind.u16.bits = 16 from rfl, Int.toNat_natCast, Nat.min_eq_left hs]
    simp
  rw [e]
  have h1 : a / 2 ^ s < 65536 := Nat.lt_of_le_of_lt (Nat.div_le_self _ _) ha
  have := bits_and16 (a := a / 2 ^ s) (b := 1) h1 (by decide)
  rw [show ((1 : Nat) : Int) = 1 from rfl] at this
  rw [this, Nat.and_one_is_mod, Nat.testBit_eq_decide_div_mod_eq]
  rcases Nat.mod_two_eq_zero_or_one (a / 2 ^ s) with e | e <;> rw [e] <;> simp
theorem bit_u32 {a s : Nat} (ha : a < 2 ^ 32) (hs : s ≤ 32) : Go.bits .and .u32 (shr .u32 a s) 1 = (if a.testBit s then 1 else 0 : Int) := by
  have e : shr .u32 a s = ((a / 2 ^ s : Nat) : Int) := by
    unfold shr
    rw [show IntKind.u32.bits = 32 from rfl, Int.toNat_natCast, Nat.min_eq_left hs]
    simp
  rw [e]
  have h1 : a / 2 ^ s < 2 ^ 32 := Nat.lt_of_le_of_lt (Nat.div_le_self _ _) ha
  have := (bits_nat3 .u32 (a := a / 2 ^ s) (b := 1) h1 (by decide) fun _ h => u32_id h).2.2
  rw [show ((1 : Nat) : Int) = 1 from rfl] at this
  rw [this, Nat.and_one_is_mod, Nat.testBit_eq_decide_div_mod_eq]
  rcases Nat.mod_two_eq_zero_or_one (a / 2 ^ s) with e | e <;> rw [e] <;> simp
/-- The second loop: the remainder from the top down. -/
theorem ref_l1 : ∀ (j p : Nat), j ≤ 15 → bl p ≤ j + 16 → Ev (fun k => culletref03_Mul.l1 k p ((j + 15 : Nat) : Int)) ((pmod p 65581 : Nat) : Int) := by
  intro j
  induction j with
  | zero =>
    intro p _ hp
    refine Ev.step (fun k => culletref03_Mul.l1.eq_2 _ _ k) ?_
    have h16 : p < 65536 := (bl_le (n := 16)).1 (by omega)
    simp only [if_neg (show ¬ ((0 + 15 : Nat) : Int) ≥ 16 by omega)]
    rw [u16_id h16, pmod_small (by rw [bl65581]; omega)]
    exact Ev.now _
  | succ j ih =>
    intro p hj hp
    refine Ev.step (fun k => culletref03_Mul.l1.eq_2 _ _ k) ?_
    have hp32 : p < 2 ^ 32 := bl_le.1 (by omega)
    have hi : IntKind.u64.wrap (((j + 1 + 15 : Nat)) : Int) = ((j + 16 : Nat) : Int) := by rw [u64_wrap_nat (by omega)]
    have hi2 : IntKind.u64.wrap (wrap64 (((j + 1 + 15 : Nat) : Int) - 16)) = ((j : Nat) : Int) := by
      rw [wrap64_id (by omega) (by omega), show ((j + 1 + 15 : Nat) : Int) - 16 = ((j : Nat) : Int) by omega, u64_wrap_nat (by omega)]
    have hi3 : wrap64 (((j + 1 + 15 : Nat) : Int) - 1) = ((j + 15 : Nat) : Int) := by rw [wrap64_id (by omega) (by omega)]; omega
    simp only [if_pos (show ((j + 1 + 15 : Nat) : Int) ≥ 16 by omega), hi, hi2, hi3, if_pos (show (0 : Int) ≤ ((j + 16 : Nat) : Int) by omega), if_pos (show (0 : Int) ≤ ((j : Nat) : Int) by omega), bit_u32 hp32 (show j + 16 ≤ 32 by omega)]
    by_cases hb : p.testBit (j + 16) = true
    · simp only [hb, if_true]
      have hsh : 65581 * 2 ^ j < 2 ^ 32 := by
        have : 2 ^ j ≤ 2 ^ 14 := Nat.pow_le_pow_right (by decide) (by omega)
        omega
      have hs := shl32 (a := 65581) (s := j) (by omega) hsh
      rw [show ((65581 : Nat) : Int) = 65581 from rfl] at hs
      rw [hs, bits_xor32 hp32 hsh]
      have ht := top_step (q := 65581) (d := 16) (i := j + 16) bl65581 (by omega) (by omega) hb
      rw [show j + 16 - 16 = j by omega] at ht
      have := ih (p ^^^ 65581 * 2 ^ j) (by omega) (by omega)
      have e : pmod (p ^^^ 65581 * 2 ^ j) 65581 = pmod p 65581 := by
        rw [pmod_xor (by decide), ← pow_cl, pmod_self_mul (by decide), Nat.xor_zero]
      rw [e] at this
      exact this
    · simp only [hb, Bool.false_eq_true, if_false, show ¬ ((0 : Int) = 1) by decide]
      have := top_none (i := j + 16) (by omega) hb
      exact ih p (by omega) (by omega)
theorem ref_l0 {a b : Nat} (ha : a < 65536) (hb : b < 65536) : ∀ (n i : Nat), 16 - i ≤ n → i ≤ 16 → Ev (fun k => culletref03_Mul.l0 k a b (cl a (b % 2 ^ i) : Nat) i) ((m16 a b : Nat) : Int) := by
  have fin : Ev (fun k => culletref03_Mul.l0 k a b (cl a (b % 2 ^ 16) : Nat) ((16 : Nat) : Int)) ((m16 a b : Nat) : Int) := by
    refine Ev.step (fun k => culletref03_Mul.l0.eq_2 _ _ _ _ k) ?_
    simp only [if_neg (show ¬ ((16 : Nat) : Int) < 16 by omega)]
    rw [Nat.mod_eq_of_lt (show b < 2 ^ 16 from hb)]
    have hl : bl (cl a b) ≤ 31 := by
      by_cases h0 : a = 0
      · subst h0; rw [zero_cl, bl_zero]; omega
      · by_cases h1 : b = 0
        · subst h1; rw [cl_zero, bl_zero]; omega
        · have := bl_cl h0 h1
          have := bl_le.2 (show a < 2 ^ 16 from ha)
          have := bl_le.2 (show b < 2 ^ 16 from hb)
          omega
    exact ref_l1 15 (cl a b) (by omega) (by omega)
  intro n
  induction n with
  | zero => intro i h hi; have : i = 16 := by omega
            subst this; exact fin
  | succ n ih =>
    intro i h hi
    by_cases hlt : i < 16
    · refine Ev.step (fun k => culletref03_Mul.l0.eq_2 _ _ _ _ k) ?_
      have hw : IntKind.u64.wrap ((i : Nat) : Int) = ((i : Nat) : Int) := u64_wrap_nat (by omega)
      have h1 : cl a (b % 2 ^ i) < 2 ^ 32 := Nat.lt_of_lt_of_le (cl_lt2 (show a < 2 ^ 16 from ha) (Nat.mod_lt _ (Nat.two_pow_pos i))) (Nat.pow_le_pow_right (by decide) (by omega))
      have h2 : a * 2 ^ i < 2 ^ 32 := by
        have h3 : a * 2 ^ i < 2 ^ 16 * 2 ^ i := Nat.mul_lt_mul_of_pos_right ha (Nat.two_pow_pos i)
        rw [← Nat.pow_add] at h3
        exact Nat.lt_of_lt_of_le h3 (Nat.pow_le_pow_right (by decide) (by omega))
      simp only [if_pos (show ((i : Nat) : Int) < 16 by omega), hw, if_pos (show (0 : Int) ≤ ((i : Nat) : Int) by omega), bit_u16 hb (show i ≤ 16 by omega)]
      rw [show ((a : Nat) : Int) % 4294967296 = (a : Nat) by omega, shl32 (by omega) h2, bits_xor32 h1 h2, wrap64_id (by omega) (by omega)]
      have := ih (i + 1) (by omega) (by omega)
      rw [mod2_succ, cl_xor_right] at this
      by_cases hbit : b.testBit i = true
      · simp only [hbit, if_true]
        rw [if_pos hbit, cl_pow] at this
        exact this
      · simp only [hbit, if_false, Bool.false_eq_true, show ¬ ((0 : Int) = 1) by decide]
        rw [if_neg hbit, cl_zero, Nat.xor_zero] at this
        exact this
    · have : i = 16 := by omega
      subst this; exact fin
theorem RefMul {a b : Nat} (ha : a < 65536) (hb : b < 65536) : Ev (fun k => culletref03_Mul.f k a b) ((m16 a b : Nat) : Int) := by
  unfold culletref03_Mul.f
  have := ref_l0 ha hb 16 0 (by omega) (by omega)
  rw [Nat.pow_zero, Nat.mod_one, cl_zero] at this
  exact this
def p16 (a n : Nat) : Nat := fpow 65581 a n
theorem p16_lt (a n : Nat) : p16 a n < 65536 := fpow_lt bl65581 a n
theorem p16_zero (a : Nat) : p16 a 0 = 1 := by unfold p16; rw [fpow_zero, pmod_one irr16 bl65581]
theorem p16_succ (a n : Nat) : p16 a (n + 1) = m16 (p16 a n) a := fpow_succ (by decide) a n
theorem p16_double (a m : Nat) : p16 (m16 a a) m = p16 a (2 * m) := by
  unfold p16 m16 fpow fm; rw [pp_pmod (by decide), ← pp_two, ← pp_mul]
theorem i16_p (a : Nat) : i16 a = p16 a 65534 := rfl
theorem res_bound (n : Int) : -65535 < Int.tmod n 65535 ∧ Int.tmod n 65535 < 65535 := by
  have h1 := Int.tmod_lt_of_pos n (b := 65535) (by decide)
  have h2 := Int.lt_tmod_of_pos n (b := 65535) (by decide)
  omega
/-- n modulo 65535, from 0 on. -/
def res (n : Int) : Nat := (if Int.tmod n 65535 < 0 then Int.tmod n 65535 + 65535 else Int.tmod n 65535).toNat
theorem res_lt (n : Int) : res n < 65535 := by unfold res; have := res_bound n; split <;> omega
theorem residue (n : Int) : gf16_residue.f n = some ((res n : Nat) : Int) := by
  unfold gf16_residue.f res
  have := res_bound n
  split
  · rw [wrap64_id (by omega) (by omega)]; congr 1; omega
  · congr 1; omega
end Go.Proofs.Ytklkcenffajfeaa.R
