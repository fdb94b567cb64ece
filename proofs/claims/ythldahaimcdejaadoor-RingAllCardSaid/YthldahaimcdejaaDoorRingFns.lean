/- What the printed functions of the ring compute, in terms of polynomials as numbers. -/
import Derived.Test.YthldahaimcdejaaDoorZ2
import Derived.Test.YthldahaimcdejaaDoorZ4

namespace Go.Proofs.YthldahaimcdejaaDoor.R
open Go.RowKit Go.Proofs.YthldahaimcdejaaDoorW.PrintWords Go.Proofs.YthldahaimcdejaaDoorW.PrintLast Go.Proofs.YthldahaimcdejaaDoorW.PrintMore Go.Proofs.YthldahaimcdejaaDoor.A GP
set_option linter.unusedVariables false

theorem wrap64_id {n : Int} (h : -9223372036854775808 ≤ n) (h' : n ≤ 9223372036854775807) : wrap64 n = n := by unfold wrap64; omega
theorem u64_wrap (n : Int) : IntKind.u64.wrap n = n % 18446744073709551616 := by simp [IntKind.wrap, IntKind.bits, IntKind.signed]
theorem u64_wrap_nat {n : Nat} (h : n < 2 ^ 64) : IntKind.u64.wrap (n : Int) = n := by
  rw [u64_wrap]; have : (n : Int) < 2 ^ 64 := by exact_mod_cast h
  omega
theorem u64_bits : IntKind.u64.bits = 64 := rfl
theorem bits_nat3 (k : IntKind) {a b : Nat} (ha : a < 2 ^ k.bits) (hb : b < 2 ^ k.bits) (hw : ∀ n : Nat, n < 2 ^ k.bits → k.wrap (n : Int) = n) :
    Go.bits .xor k a b = ((a ^^^ b : Nat) : Int) ∧ Go.bits .or k a b = ((a ||| b : Nat) : Int) ∧ Go.bits .and k a b = ((a &&& b : Nat) : Int) := by
  have ha' : a % 2 ^ k.bits = a := Nat.mod_eq_of_lt ha
  have hb' : b % 2 ^ k.bits = b := Nat.mod_eq_of_lt hb
  refine ⟨?_, ?_, ?_⟩
  · simp only [Go.bits, BitVec.ofInt_natCast, BitVec.toNat_xor, BitVec.toNat_ofNat, ha', hb']
    exact hw _ (Nat.xor_lt_two_pow ha hb)
  · simp only [Go.bits, BitVec.ofInt_natCast, BitVec.toNat_or, BitVec.toNat_ofNat, ha', hb']
    exact hw _ (Nat.or_lt_two_pow ha hb)
  · simp only [Go.bits, BitVec.ofInt_natCast, BitVec.toNat_and, BitVec.toNat_ofNat, ha', hb']
    exact hw _ (Nat.and_lt_two_pow _ hb)
theorem bits_xor64 {a b : Nat} (ha : a < 2 ^ 64) (hb : b < 2 ^ 64) : Go.bits .xor .u64 a b = ((a ^^^ b : Nat) : Int) := (bits_nat3 .u64 ha hb fun _ h => u64_wrap_nat h).1
theorem bits_or64 {a b : Nat} (ha : a < 2 ^ 64) (hb : b < 2 ^ 64) : Go.bits .or .u64 a b = ((a ||| b : Nat) : Int) := (bits_nat3 .u64 ha hb fun _ h => u64_wrap_nat h).2.1
theorem bits_and64 {a b : Nat} (ha : a < 2 ^ 64) (hb : b < 2 ^ 64) : Go.bits .and .u64 a b = ((a &&& b : Nat) : Int) := (bits_nat3 .u64 ha hb fun _ h => u64_wrap_nat h).2.2
theorem shl64 {a s : Nat} (hs : s ≤ 64) (h : a * 2 ^ s < 2 ^ 64) : shl .u64 a s = ((a * 2 ^ s : Nat) : Int) := by
  unfold shl
  rw [u64_bits, Int.toNat_natCast, Nat.min_eq_left hs]
  exact u64_wrap_nat h
theorem shr64 {a s : Nat} (hs : s ≤ 64) : shr .u64 a s = ((a / 2 ^ s : Nat) : Int) := by
  unfold shr
  rw [u64_bits, Int.toNat_natCast, Nat.min_eq_left hs]
  simp
theorem bit64 {a s : Nat} (ha : a < 2 ^ 64) (hs : s ≤ 64) : Go.bits .and .u64 (shr .u64 a s) 1 = (if a.testBit s then 1 else 0 : Int) := by
  rw [shr64 hs]
  have h1 : a / 2 ^ s < 2 ^ 64 := Nat.lt_of_le_of_lt (Nat.div_le_self _ _) ha
  have := bits_and64 (a := a / 2 ^ s) (b := 1) h1 (by decide)
  rw [show ((1 : Nat) : Int) = 1 from rfl] at this
  rw [this, Nat.and_one_is_mod, Nat.testBit_eq_decide_div_mod_eq]
  rcases Nat.mod_two_eq_zero_or_one (a / 2 ^ s) with e | e <;> rw [e] <;> simp

theorem bitLen_bl (a : Nat) : a < 2 ^ 64 → Lib.bitLen a = bl a := by
  induction a using bits_ind with
  | h0 => intro _; rfl
  | h1 a h ih =>
    intro ha
    rw [Lib.bitLen_half a h ha, ih (by omega), bl_half]
    have := bl_pos.2 h
    omega
theorem deg {a : Nat} (ha : a < 2 ^ 64) : ring_Degree.f a = some ((bl a : Int) - 1) := by
  unfold ring_Degree.f bits_Len64.f
  have h1 : (a : Int) ≤ 18446744073709551615 := by have : (a : Int) < 2 ^ 64 := by exact_mod_cast ha
                                                   omega
  rw [if_pos (by omega), if_pos h1, Int.toNat_natCast, bitLen_bl a ha, Option.bind_some]
  have := bl_le.2 ha
  rw [wrap64_id (by omega) (by omega)]

theorem or_eq_xor {x y : Nat} (h : x &&& y = 0) : x ||| y = x ^^^ y := by
  apply Nat.eq_of_testBit_eq
  intro i
  have := congrArg (·.testBit i) h
  simp only [Nat.testBit_and, Nat.zero_testBit] at this
  rw [Nat.testBit_or, Nat.testBit_xor]
  cases hx : x.testBit i <;> cases hy : y.testBit i <;> simp_all
theorem or_pow {x s : Nat} (h : x.testBit s = false) : x ||| 2 ^ s = x ^^^ 2 ^ s := by
  apply or_eq_xor
  apply Nat.eq_of_testBit_eq
  intro i
  rw [Nat.testBit_and, Nat.testBit_two_pow, Nat.zero_testBit]
  by_cases e : s = i
  · subst e; rw [h]; rfl
  · simp [e]

theorem divMod_l0 {b : Nat} (hb : b ≠ 0) (hb64 : b < 2 ^ 64) : ∀ (n a x : Nat), bl a ≤ n → a < 2 ^ 64 → x < 2 ^ 64 → (∀ i, i + bl b ≤ bl a → x.testBit i = false) →
    Ev (fun k => ring_divMod.l0 k a b x ((bl b : Int) - 1)) ((x ^^^ pquo a b : Nat), (pmod a b : Nat)) := by
  intro n
  induction n with
  | zero =>
    intro a x h ha hx _
    refine Ev.step (fun k => ring_divMod.l0.eq_2 _ _ _ _ k) ?_
    have hb1 := bl_pos.2 hb
    have hb2 := bl_le.2 hb64
    have hlt : bl a < bl b := by omega
    simp only [deg ha, Option.bind_some]
    rw [wrap64_id (by omega) (by omega)]
    simp only [if_pos (show ((bl a : Int) - 1 - ((bl b : Int) - 1)) < 0 by omega)]
    unfold pquo pmod
    rw [pdm_small hlt, Nat.xor_zero]
    exact Ev.now _
  | succ n ih =>
    intro a x h ha hx hz
    refine Ev.step (fun k => ring_divMod.l0.eq_2 _ _ _ _ k) ?_
    have hb1 := bl_pos.2 hb
    have hb2 := bl_le.2 hb64
    have ha2 := bl_le.2 ha
    simp only [deg ha, Option.bind_some]
    rw [wrap64_id (by omega) (by omega)]
    by_cases hlt : bl a < bl b
    · simp only [if_pos (show ((bl a : Int) - 1 - ((bl b : Int) - 1)) < 0 by omega)]
      unfold pquo pmod
      rw [pdm_small hlt, Nat.xor_zero]
      exact Ev.now _
    · simp only [if_neg (show ¬ ((bl a : Int) - 1 - ((bl b : Int) - 1)) < 0 by omega), if_pos (show 0 ≤ ((bl a : Int) - 1 - ((bl b : Int) - 1)) by omega)]
      have es : ((bl a : Int) - 1 - ((bl b : Int) - 1)) = ((bl a - bl b : Nat) : Int) := by omega
      rw [es]
      generalize hs : bl a - bl b = s
      have e1 := bl_shift hb s
      have h1 : b * 2 ^ s < 2 ^ 64 := bl_le.1 (by omega)
      have h2 : 1 * 2 ^ s < 2 ^ 64 := by rw [Nat.one_mul]; exact Nat.pow_lt_pow_right (by decide) (by omega)
      have h3 := shl64 (a := 1) (s := s) (by omega) h2
      rw [show ((1 : Nat) : Int) = 1 from rfl, Nat.one_mul] at h3
      rw [shl64 (by omega) h1, h3, bits_xor64 ha h1, bits_or64 hx (by omega)]
      have hl := step_lt hb (Nat.le_of_not_lt hlt)
      rw [hs] at hl
      have hst := pdm_step hb (Nat.le_of_not_lt hlt)
      rw [hs] at hst
      rw [or_pow (hz s (by omega))]
      have hq : pquo a b = pquo (a ^^^ b * 2 ^ s) b ^^^ 2 ^ s := by unfold pquo; rw [hst]
      have hr : pmod a b = pmod (a ^^^ b * 2 ^ s) b := by unfold pmod; rw [hst]
      have := ih (a ^^^ b * 2 ^ s) (x ^^^ 2 ^ s) (by omega) (Nat.xor_lt_two_pow ha h1) (Nat.xor_lt_two_pow hx (by omega)) (by
        intro i hi
        rw [Nat.testBit_xor, hz i (by omega), Nat.testBit_two_pow]
        have : s ≠ i := by omega
        simp [this])
      rw [hq, hr]
      rw [Nat.xor_assoc, Nat.xor_comm (2 ^ s)] at this
      exact this
theorem divMod {a b : Nat} (hb : b ≠ 0) (ha : a < 2 ^ 64) (hb64 : b < 2 ^ 64) : Ev (fun k => ring_divMod.f k a b) ((pquo a b : Nat), (pmod a b : Nat)) := by
  unfold ring_divMod.f
  simp only [deg hb64, Option.bind_some]
  have := divMod_l0 hb hb64 _ a 0 (Nat.le_refl _) ha (by decide) (fun i _ => Nat.zero_testBit i)
  rw [Nat.zero_xor] at this
  exact this
theorem DivMod {a b : Nat} (hb : b ≠ 0) (ha : a < 2 ^ 64) (hb64 : b < 2 ^ 64) : Ev (fun k => ring_DivMod.f k a b) ((pquo a b : Nat), (pmod a b : Nat), (0 : Int)) := by
  unfold ring_DivMod.f
  simp only [if_neg (show ¬ (b : Int) = 0 by omega)]
  exact Ev.bind (divMod hb ha hb64) (Ev.now _)
theorem DivMod_zero (a : Int) (k : Nat) : ring_DivMod.f k a 0 = some (0, 0, 10) := by unfold ring_DivMod.f; rfl
theorem pmod_lt64 {a b : Nat} (hb : b ≠ 0) (hb64 : b < 2 ^ 64) : pmod a b < 2 ^ 64 := bl_le.1 (by have := pmod_lt hb a; have := bl_le.2 hb64; omega)
theorem Gcd : ∀ (n a b : Nat), bl b ≤ n → a < 2 ^ 64 → b < 2 ^ 64 → Ev (fun k => ring_Gcd.f k a b) (pgcd a b : Nat) := by
  unfold ring_Gcd.f
  intro n
  induction n with
  | zero =>
    intro a b h ha hb
    have : b = 0 := bl_eq_zero.1 (by omega)
    subst this
    refine Ev.step (fun k => ring_Gcd.l0.eq_2 _ _ k) ?_
    simp only [if_pos (show ((0 : Nat) : Int) = 0 from rfl)]
    rw [pgcd_zero]
    exact Ev.now _
  | succ n ih =>
    intro a b h ha hb
    refine Ev.step (fun k => ring_Gcd.l0.eq_2 _ _ k) ?_
    by_cases h0 : b = 0
    · subst h0
      simp only [if_pos (show ((0 : Nat) : Int) = 0 from rfl)]
      rw [pgcd_zero]
      exact Ev.now _
    · simp only [if_neg (show ¬ (b : Int) = 0 by omega)]
      refine Ev.bind (divMod h0 ha hb) ?_
      rw [pgcd_step h0]
      exact ih b (pmod a b) (by have := pmod_lt h0 a; omega) hb (pmod_lt64 h0 hb)
theorem gcd {a b : Nat} (ha : a < 2 ^ 64) (hb : b < 2 ^ 64) : Ev (fun k => ring_Gcd.f k a b) (pgcd a b : Nat) := Gcd _ a b (Nat.le_refl _) ha hb
end Go.Proofs.YthldahaimcdejaaDoor.R
