import Derived.Test.YtkdoilmfchlpdaaZ4
import Derived.Test.YtkdoilmfchlpdaaZ5
import Derived.Test.YtkdoilmfchlpdaaZ3
section
/- What the printed functions of the ring compute, in terms of polynomials as numbers. -/
namespace Go.Proofs.Ytkdoilmfchlpdaa.R
open Go.RowKit Go.Proofs.YtkdoilmfchlpdaaW.PrintWords Go.Proofs.YtkdoilmfchlpdaaW.PrintLast Go.Proofs.YtkdoilmfchlpdaaW.PrintMore Go.Proofs.Ytkdoilmfchlpdaa.A GP
set_option linter.unusedVariables false

theorem wrap64_id {n : Int} (h : -9223372036854775808 ≤ n) (h' : n ≤ 9223372036854775807) : wrap64 n = n := by unfold wrap64; omega
theorem u64_wrap (n : Int) : IntKind.u64.wrap n = n % 18446744073709551616 := by simp [IntKind.wrap, IntKind.bits, IntKind.signed]
theorem u64_wrap_nat {n : Nat} (h : n < 2 ^ 64) : IntKind.u64.wrap (n : Int) = n := by
  rw [u64_wrap]; have : (n : Int) < 2 ^ 64 := by exact_mod_cast h
  omega
theorem u64_bits : IntKind.u64.bits = 64 := rfl
theorem bits_nat3 (k : IntKind) {a b : Nat} (ha : a < 2 ^ k.bits) (hb : b < 2 ^ k.bits) (hw : ∀ n : Nat, n < 2 ^ k.bits → k.wrap (n : Int) = n) :
    Go.bits .xor k a b = ((a ^^^ b : Nat) : Int) ∧ Go.bits .or k a b = ((a ||| b : Nat) : Int) ∧ Go.bits .and k a b = ((a &&& b : Nat) : Int) := by
  have ha' : a % 2 ^ k.bits = a := Nat.mod_eq_of_lt ha
  have hb' : b % 2 ^ k.bits = b := Nat.mod_eq_of_lt hb
  refine ⟨?_, ?_, ?_⟩
  · simp only [Go.bits, BitVec.ofInt_natCast, BitVec.toNat_xor, BitVec.toNat_ofNat, ha', hb']
    exact hw _ (Nat.xor_lt_two_pow ha hb)
  · simp only [Go.bits, BitVec.ofInt_natCast, BitVec.toNat_or, BitVec.toNat_ofNat, ha', hb']
    exact hw _ (Nat.or_lt_two_pow ha hb)
  · simp only [Go.bits, BitVec.ofInt_natCast, BitVec.toNat_and, BitVec.toNat_ofNat, ha', hb']
    exact hw _ (Nat.and_lt_two_pow _ hb)
theorem bits_natj (k : IntKind) (j : Nat) (hj : j ≤ k.bits) {a b : Nat} (ha : a < 2 ^ j) (hb : b < 2 ^ j) (hw : ∀ n : Nat, n < 2 ^ j → k.wrap (n : Int) = n) :
    Go.bits .xor k a b = ((a ^^^ b : Nat) : Int) ∧ Go.bits .or k a b = ((a ||| b : Nat) : Int) ∧ Go.bits .and k a b = ((a &&& b : Nat) : Int) := by
  have hp : 2 ^ j ≤ 2 ^ k.bits := Nat.pow_le_pow_right (by decide) hj
  have ha' : a % 2 ^ k.bits = a := Nat.mod_eq_of_lt (by omega)
  have hb' : b % 2 ^ k.bits = b := Nat.mod_eq_of_lt (by omega)
  refine ⟨?_, ?_, ?_⟩
  · simp only [Go.bits, BitVec.ofInt_natCast, BitVec.toNat_xor, BitVec.toNat_ofNat, ha', hb']
    exact hw _ (Nat.xor_lt_two_pow ha hb)
  · simp only [Go.bits, BitVec.ofInt_natCast, BitVec.toNat_or, BitVec.toNat_ofNat, ha', hb']
    exact hw _ (Nat.or_lt_two_pow ha hb)
  · simp only [Go.bits, BitVec.ofInt_natCast, BitVec.toNat_and, BitVec.toNat_ofNat, ha', hb']
    exact hw _ (Nat.and_lt_two_pow _ hb)
theorem i64_id {n : Nat} (h : n < 2 ^ 62) : IntKind.i64.wrap (n : Int) = n := by rw [IntKind.wrap_i64]; omega
theorem bits_andi {a b : Nat} (ha : a < 2 ^ 62) (hb : b < 2 ^ 62) : Go.bits .and .i64 a b = ((a &&& b : Nat) : Int) := (bits_natj .i64 62 (by decide) ha hb fun _ h => i64_id h).2.2
theorem bits_xor64 {a b : Nat} (ha : a < 2 ^ 64) (hb : b < 2 ^ 64) : Go.bits .xor .u64 a b = ((a ^^^ b : Nat) : Int) := (bits_nat3 .u64 ha hb fun _ h => u64_wrap_nat h).1
theorem bits_or64 {a b : Nat} (ha : a < 2 ^ 64) (hb : b < 2 ^ 64) : Go.bits .or .u64 a b = ((a ||| b : Nat) : Int) := (bits_nat3 .u64 ha hb fun _ h => u64_wrap_nat h).2.1
theorem bits_and64 {a b : Nat} (ha : a < 2 ^ 64) (hb : b < 2 ^ 64) : Go.bits .and .u64 a b = ((a &&& b : Nat) : Int) := (bits_nat3 .u64 ha hb fun _ h => u64_wrap_nat h).2.2
theorem shl64 {a s : Nat} (hs : s ≤ 64) (h : a * 2 ^ s < 2 ^ 64) : shl .u64 a s = ((a * 2 ^ s : Nat) : Int) := by
  unfold shl
  rw [u64_bits, Int.toNat_natCast, Nat.min_eq_left hs]
  exact u64_wrap_nat h
theorem shr64 {a s : Nat} (hs : s ≤ 64) : shr .u64 a s = ((a / 2 ^ s : Nat) : Int) := by
  unfold shr
  rw [u64_bits, Int.toNat_natCast, Nat.min_eq_left hs]
  simp
theorem bit64 {a s : Nat} (ha : a < 2 ^ 64) (hs : s ≤ 64) : Go.bits .and .u64 (shr .u64 a s) 1 = (if a.testBit s then 1 else 0 : Int) := by
  rw [shr64 hs]
  have h1 : a / 2 ^ s < 2 ^ 64 := Nat.lt_of_le_of_lt (Nat.div_le_self _ _) ha
  have := bits_and64 (a := a / 2 ^ s) (b := 1) h1 (by decide)
  rw [show ((1 : Nat) : Int) = 1 from rfl] at this
  rw [this, Nat.and_one_is_mod, Nat.testBit_eq_decide_div_mod_eq]
  rcases Nat.mod_two_eq_zero_or_one (a / 2 ^ s) with e | e <;> rw [e] <;> simp

theorem bitLen_bl (a : Nat) : a < 2 ^ 64 → Lib.bitLen a = bl a := by
  induction a using bits_ind with
  | h0 => intro _; rfl
  | h1 a h ih =>
    intro ha
    rw [Lib.bitLen_half a h ha, ih (by omega), bl_half]
    have := bl_pos.2 h
    omega
theorem deg {a : Nat} (ha : a < 2 ^ 64) : ring_Degree.f a = some ((bl a : Int) - 1) := by
  unfold ring_Degree.f bits_Len64.f
  have h1 : (a : Int) ≤ 18446744073709551615 := by have : (a : Int) < 2 ^ 64 := by exact_mod_cast ha
                                                   omega
  rw [if_pos (by omega), if_pos h1, Int.toNat_natCast, bitLen_bl a ha, Option.bind_some]
  have := bl_le.2 ha
  rw [wrap64_id (by omega) (by omega)]

theorem or_eq_xor {x y : Nat} (h : x &&& y = 0) : x ||| y = x ^^^ y := by
  apply Nat.eq_of_testBit_eq
  intro i
  have := congrArg (·.testBit i) h
  simp only [Nat.testBit_and, Nat.zero_testBit] at this
  rw [Nat.testBit_or, Nat.testBit_xor]
  cases hx : x.testBit i <;> cases hy : y.testBit i <;> simp_all
theorem or_pow {x s : Nat} (h : x.testBit s = false) : x ||| 2 ^ s = x ^^^ 2 ^ s := by
  apply or_eq_xor
  apply Nat.eq_of_testBit_eq
  intro i
  rw [Nat.testBit_and, Nat.testBit_two_pow, Nat.zero_testBit]
  by_cases e : s = i
  · subst e; rw [h]; rfl
  · simp [e]

theorem divMod_l0 {b : Nat} (hb : b ≠ 0) (hb64 : b < 2 ^ 64) : ∀ (n a x : Nat), bl a ≤ n → a < 2 ^ 64 → x < 2 ^ 64 → (∀ i, i + bl b ≤ bl a → x.testBit i = false) →
    Ev (fun k => ring_divMod.l0 k a b x ((bl b : Int) - 1)) ((x ^^^ pquo a b : Nat), (pmod a b : Nat)) := by
  intro n
  induction n with
  | zero =>
    intro a x h ha hx _
    refine Ev.step (fun k => ring_divMod.l0.eq_2 _ _ _ _ k) ?_
    have hb1 := bl_pos.2 hb
    have hb2 := bl_le.2 hb64
    have hlt : bl a < bl b := by omega
    simp only [deg ha, Option.bind_some]
    rw [wrap64_id (by omega) (by omega)]
    simp only [if_pos (show ((bl a : Int) - 1 - ((bl b : Int) - 1)) < 0 by omega)]
    unfold pquo pmod
    rw [pdm_small hlt, Nat.xor_zero]
    exact Ev.now _
  | succ n ih =>
    intro a x h ha hx hz
    refine Ev.step (fun k => ring_divMod.l0.eq_2 _ _ _ _ k) ?_
    have hb1 := bl_pos.2 hb
    have hb2 := bl_le.2 hb64
    have ha2 := bl_le.2 ha
    simp only [deg ha, Option.bind_some]
    rw [wrap64_id (by omega) (by omega)]
    by_cases hlt : bl a < bl b
    · simp only [if_pos (show ((bl a : Int) - 1 - ((bl b : Int) - 1)) < 0 by omega)]
      unfold pquo pmod
      rw [pdm_small hlt, Nat.xor_zero]
      exact Ev.now _
    · simp only [if_neg (show ¬ ((bl a : Int) - 1 - ((bl b : Int) - 1)) < 0 by omega), if_pos (show 0 ≤ ((bl a : Int) - 1 - ((bl b : Int) - 1)) by omega)]
      have es : ((bl a : Int) - 1 - ((bl b : Int) - 1)) = ((bl a - bl b : Nat) : Int) := by omega
      rw [es]
      generalize hs : bl a - bl b = s
      have e1 := bl_shift hb s
      have h1 : b * 2 ^ s < 2 ^ 64 := bl_le.1 (by omega)
      have h2 : 1 * 2 ^ s < 2 ^ 64 := by rw [Nat.one_mul]; exact Nat.pow_lt_pow_right (by decide) (by omega)
      have h3 := shl64 (a := 1) (s := s) (by omega) h2
      rw [show ((1 : Nat) : Int) = 1 from rfl, Nat.one_mul] at h3
      rw [shl64 (by omega) h1, h3, bits_xor64 ha h1, bits_or64 hx (by omega)]
      have hl := step_lt hb (Nat.le_of_not_lt hlt)
      rw [hs] at hl
      have hst := pdm_step hb (Nat.le_of_not_lt hlt)
      rw [hs] at hst
      rw [or_pow (hz s (by omega))]
      have hq : pquo a b = pquo (a ^^^ b * 2 ^ s) b ^^^ 2 ^ s := by unfold pquo; rw [hst]
      have hr : pmod a b = pmod (a ^^^ b * 2 ^ s) b := by unfold pmod; rw [hst]
      have := ih (a ^^^ b * 2 ^ s) (x ^^^ 2 ^ s) (by omega) (Nat.xor_lt_two_pow ha h1) (Nat.xor_lt_two_pow hx (by omega)) (by
        intro i hi
        rw [Nat.testBit_xor, hz i (by omega), Nat.testBit_two_pow]
        have : s ≠ i := by omega
        simp [this])
      rw [hq, hr]
      rw [Nat.xor_assoc, Nat.xor_comm (2 ^ s)] at this
      exact this
theorem divMod {a b : Nat} (hb : b ≠ 0) (ha : a < 2 ^ 64) (hb64 : b < 2 ^ 64) : Ev (fun k => ring_divMod.f k a b) ((pquo a b : Nat), (pmod a b : Nat)) := by
  unfold ring_divMod.f
  simp only [deg hb64, Option.bind_some]
  have := divMod_l0 hb hb64 _ a 0 (Nat.le_refl _) ha (by decide) (fun i _ => Nat.zero_testBit i)
  rw [Nat.zero_xor] at this
  exact this
theorem pmod_lt64 {a b : Nat} (hb : b ≠ 0) (hb64 : b < 2 ^ 64) : pmod a b < 2 ^ 64 := bl_le.1 (by have := pmod_lt hb a; have := bl_le.2 hb64; omega)
end Go.Proofs.Ytkdoilmfchlpdaa.R
end
section
/- The peasant's way of multiplying, and what the printed functions of layer 2 and of the theorems' own products compute. -/
namespace Go.Proofs.Ytkdoilmfchlpdaa.R
open Go.RowKit Go.Proofs.YtkdoilmfchlpdaaW.PrintWords Go.Proofs.YtkdoilmfchlpdaaW.PrintLast Go.Proofs.YtkdoilmfchlpdaaW.PrintMore Go.Proofs.Ytkdoilmfchlpdaa.A GP
set_option linter.unusedVariables false
set_option linter.unusedSimpArgs false

theorem cl_two (x : Nat) : cl x 2 = 2 * x := by have := cl_pow x 1; rw [Nat.pow_one] at this; omega
theorem cl_dbl (x c : Nat) : cl (2 * x) c = 2 * cl x c := by rw [cl_comm, cl_bit0, cl_comm]
theorem fm_peasant {p d : Nat} (hd : bl p = d + 1) {x : Nat} (hx : x < 2 ^ d) (y : Nat) : fm p x y = (if y % 2 = 1 then x else 0) ^^^ fm p (fm p x 2) (y / 2) := by
  have hp : p ≠ 0 := bl_pos.1 (by omega)
  unfold fm
  rw [cl_step, pmod_xor hp, pmod_cl_left hp, cl_two, cl_dbl]
  congr 1
  split
  · exact pmod_id hd hx
  · exact pmod_zero_left _
def m8 (a b : Nat) : Nat := fm 285 a b
def i8 (a : Nat) : Nat := fpow 285 a 254
theorem m8_lt (a b : Nat) : m8 a b < 256 := fm_lt bl285 a b
theorem i8_lt (a : Nat) : i8 a < 256 := fpow_lt bl285 a _
theorem red8 {y : Nat} (h : 255 < y) (h2 : y < 2 ^ 9) : y ^^^ 285 < 256 := by
  have hx : y ^^^ 285 < 2 ^ 9 := Nat.xor_lt_two_pow h2 (by decide)
  have hb : (y ^^^ 285).testBit 8 = false := by
    rw [Nat.testBit_xor]
    have : y.testBit 8 = true := by rw [Nat.testBit_eq_decide_div_mod_eq, decide_eq_true_eq]; omega
    rw [this]; decide
  rw [Nat.testBit_eq_decide_div_mod_eq, decide_eq_false_iff_not] at hb
  omega
theorem fm8_two {x : Nat} (hx : x < 256) : fm 285 x 2 = if 255 < 2 * x then (2 * x) ^^^ 285 else 2 * x := by
  unfold fm
  rw [cl_two]
  by_cases h : 255 < 2 * x
  · rw [if_pos h]
    have h1 : pmod 285 285 = 0 := by
      have := pmod_self_mul (b := 285) (by decide) 1
      rwa [cl_comm, cl_one] at this
    have h2 := pmod_xor (b := 285) (by decide) (2 * x) 285
    rw [h1, Nat.xor_zero, pmod_id bl285 (red8 h (by omega))] at h2
    exact h2.symm
  · rw [if_neg h, pmod_id bl285 (by omega)]
theorem u8_id {n : Nat} (h : n < 256) : IntKind.u8.wrap (n : Int) = n := by rw [IntKind.wrap_u8]; omega
theorem bits_and8 {a b : Nat} (ha : a < 256) (hb : b < 256) : Go.bits .and .u8 a b = ((a &&& b : Nat) : Int) := (bits_nat3 .u8 ha hb fun _ h => u8_id h).2.2
theorem bits_xor8 {a b : Nat} (ha : a < 256) (hb : b < 256) : Go.bits .xor .u8 a b = ((a ^^^ b : Nat) : Int) := (bits_nat3 .u8 ha hb fun _ h => u8_id h).1
theorem and_top {x k : Nat} (hx : x < 2 ^ (k + 1)) : x &&& 2 ^ k = if 2 ^ k - 1 < x then 2 ^ k else 0 := by
  have hp := Nat.two_pow_pos k
  have h2 : 2 ^ (k + 1) = 2 * 2 ^ k := by rw [Nat.pow_succ]; omega
  have hb : x.testBit k = decide (2 ^ k - 1 < x) := by
    rw [Nat.testBit_eq_decide_div_mod_eq]
    by_cases h : 2 ^ k - 1 < x
    · have : x / 2 ^ k = 1 := by
        have h1 : x / 2 ^ k < 2 := (Nat.div_lt_iff_lt_mul hp).2 (by omega)
        have h3 : 1 ≤ x / 2 ^ k := (Nat.le_div_iff_mul_le hp).2 (by omega)
        omega
      rw [this]; simp [h]
    · have : x / 2 ^ k = 0 := Nat.div_eq_of_lt (by omega)
      rw [this]; simp [h]
  apply Nat.eq_of_testBit_eq
  intro i
  rw [Nat.testBit_and, Nat.testBit_two_pow]
  by_cases e : k = i
  · subst e
    by_cases h : 2 ^ k - 1 < x
    · rw [hb, if_pos h, Nat.testBit_two_pow]; simp [h]
    · rw [hb, if_neg h, Nat.zero_testBit]; simp [h]
  · by_cases h : 2 ^ k - 1 < x
    · rw [if_pos h, Nat.testBit_two_pow]; simp [e]
    · rw [if_neg h, Nat.zero_testBit]; simp [e]
theorem gf8_l0 : ∀ n x y s : Nat, y < 2 ^ n → y < 256 → x < 256 → s < 256 → Ev (fun k => gf8_Mul.l0 k y x s) ((s ^^^ m8 x y : Nat) : Int) := by
  have fin : ∀ x s : Nat, s < 256 → Ev (fun k => gf8_Mul.l0 k ((0 : Nat) : Int) x s) ((s ^^^ m8 x 0 : Nat) : Int) := by
    intro x s hs
    refine Ev.step (fun k => gf8_Mul.l0.eq_2 _ _ _ k) ?_
    simp only [if_pos (show ((0 : Nat) : Int) = 0 from rfl), show ((s : Nat) : Int) % 256 = (s : Int) by omega]
    unfold m8
    rw [fm_zero, Nat.xor_zero]
    exact Ev.now _
  intro n
  induction n with
  | zero =>
    intro x y s hy _ hx hs
    obtain rfl : y = 0 := by omega
    exact fin x s hs
  | succ n ih =>
    intro x y s hy hy2 hx hs
    by_cases h0 : y = 0
    · subst h0; exact fin x s hs
    · have hm := fm_peasant bl285 hx y
      rw [fm8_two hx] at hm
      have hand : Go.bits .and .u8 (y : Int) 1 = ((y % 2 : Nat) : Int) := by
        have := bits_and8 hy2 (show 1 < 256 by decide)
        rw [Nat.and_one_is_mod] at this
        exact this
      have hw : IntKind.u64.wrap ((x : Int) * 2) = ((2 * x : Nat) : Int) := by rw [show (x : Int) * 2 = ((2 * x : Nat) : Int) by omega, u64_wrap_nat (by omega)]
      have ht : Go.bits .and .u64 ((2 * x : Nat) : Int) 256 = ((if 255 < 2 * x then 256 else 0 : Nat) : Int) := by
        have := bits_and64 (a := 2 * x) (b := 256) (by omega) (by decide)
        rw [show ((256 : Nat)) = 2 ^ 8 from rfl, and_top (by omega)] at this
        exact this
      have hx1 : Go.bits .xor .u64 ((2 * x : Nat) : Int) 285 = ((2 * x ^^^ 285 : Nat) : Int) := bits_xor64 (a := 2 * x) (b := 285) (by omega) (by decide)
      have hx2 : Go.bits .xor .u64 (s : Int) (x : Int) = ((s ^^^ x : Nat) : Int) := bits_xor64 (by omega) (by omega)
      have hsx : s ^^^ x < 256 := Nat.xor_lt_two_pow (n := 8) hs hx
      have hd : (y : Int) / 2 = ((y / 2 : Nat) : Int) := by omega
      refine Ev.step (fun k => gf8_Mul.l0.eq_2 _ _ _ k) ?_
      simp only [if_neg (show ¬ ((y : Nat) : Int) = 0 by omega), hand, hw, ht, hx1, hx2, hd]
      have hy1 : y / 2 < 2 ^ n := by rw [Nat.pow_succ] at hy; omega
      have hr : 255 < 2 * x → 2 * x ^^^ 285 < 256 := fun h => red8 h (by omega)
      unfold m8
      rw [hm]
      rcases Nat.mod_two_eq_zero_or_one y with e | e
      · rw [e] at *
        simp only [show ((0 : Nat) : Int) = 0 from rfl, if_true, show ¬ (0 : Nat) = 1 by decide, if_false, Nat.zero_xor]
        by_cases hg : 255 < 2 * x
        · simp only [if_pos hg, if_neg (show ¬ ((256 : Nat) : Int) = 0 by decide)]
          exact ih _ _ _ hy1 (by omega) (hr hg) hs
        · simp only [if_neg hg, if_pos (show ((0 : Nat) : Int) = 0 from rfl)]
          exact ih _ _ _ hy1 (by omega) (by omega) hs
      · rw [e] at *
        simp only [if_neg (show ¬ ((1 : Nat) : Int) = 0 by decide), if_true, ← Nat.xor_assoc]
        by_cases hg : 255 < 2 * x
        · simp only [if_pos hg, if_neg (show ¬ ((256 : Nat) : Int) = 0 by decide)]
          exact ih _ _ _ hy1 (by omega) (hr hg) hsx
        · simp only [if_neg hg, if_pos (show ((0 : Nat) : Int) = 0 from rfl)]
          exact ih _ _ _ hy1 (by omega) (by omega) hsx
theorem Mul8 {a b : Nat} (ha : a < 256) (hb : b < 256) : Ev (fun k => gf8_Mul.f k a b) ((m8 a b : Nat) : Int) := by
  unfold gf8_Mul.f
  rw [u64_wrap_nat (show a < 2 ^ 64 by omega)]
  have := gf8_l0 8 a b 0 (by omega) hb ha (by decide)
  rw [Nat.zero_xor] at this
  exact this
end Go.Proofs.Ytkdoilmfchlpdaa.R
end
section
/- Matrices as lists of lists, told by a function of row and column. -/
namespace Go.Proofs.Ytkdoilmfchlpdaa.R
open Go.RowKit Go.Proofs.YtkdoilmfchlpdaaW.PrintWords Go.Proofs.YtkdoilmfchlpdaaW.PrintLast Go.Proofs.YtkdoilmfchlpdaaW.PrintMore Go.Proofs.Ytkdoilmfchlpdaa.A
set_option linter.unusedVariables false
set_option linter.unusedSimpArgs false

/-- A row of numbers. -/
def rowOf (c : Nat) (g : Nat → Nat) : List Int := (List.range c).map fun j => ((g j : Nat) : Int)
/-- The matrix of r rows and c columns whose element (i, j) is g i j. -/
def mat (r c : Nat) (g : Nat → Nat → Nat) : List (List Int) := (List.range r).map fun i => rowOf c (g i)
theorem rowOf_len (c : Nat) (g : Nat → Nat) : (rowOf c g).length = c := by simp [rowOf]
theorem mat_len (r c : Nat) (g : Nat → Nat → Nat) : (mat r c g).length = r := by simp [mat]
theorem rowOf_get {c j : Nat} (h : j < c) (g : Nat → Nat) : rd (rowOf c g) (j : Int) = ((g j : Nat) : Int) := by
  unfold rd rowOf
  rw [Int.toNat_natCast, List.getD_eq_getElem?_getD, List.getElem?_map, List.getElem?_range h]
  rfl
theorem mat_row {r i : Nat} (h : i < r) (c : Nat) (g : Nat → Nat → Nat) : rd_L1 (mat r c g) (i : Int) = rowOf c (g i) := by
  unfold rd_L1 mat
  rw [Int.toNat_natCast, List.getD_eq_getElem?_getD, List.getElem?_map, List.getElem?_range h]
  rfl
theorem rowOf_congr {c : Nat} {f g : Nat → Nat} (h : ∀ j, j < c → f j = g j) : rowOf c f = rowOf c g := by
  unfold rowOf
  apply List.map_congr_left
  intro j hj
  rw [h j (List.mem_range.1 hj)]
theorem mat_congr {r c : Nat} {f g : Nat → Nat → Nat} (h : ∀ i j, i < r → j < c → f i j = g i j) : mat r c f = mat r c g := by
  unfold mat
  apply List.map_congr_left
  intro i hi
  exact rowOf_congr (fun j hj => h i j (List.mem_range.1 hi) hj)
theorem rowOf_set {c j : Nat} (g : Nat → Nat) (v : Nat) : (rowOf c g).set j ((v : Nat) : Int) = rowOf c (fun b => if b = j then v else g b) := by
  apply List.ext_getElem?
  intro k
  rw [List.getElem?_set]
  unfold rowOf
  by_cases hk : k < c
  · rw [List.getElem?_map, List.getElem?_map, List.getElem?_range hk]
    by_cases e : j = k
    · subst e
      simp [hk]
    · simp [e, Ne.symm e]
  · rw [List.getElem?_map, List.getElem?_map, List.getElem?_eq_none (by simpa using hk)]
    simp [hk]
    intro e; omega
theorem mat_set {r c i : Nat} (hi : i < r) (g : Nat → Nat → Nat) (f : Nat → Nat) : (mat r c g).set i (rowOf c f) = mat r c (fun a => if a = i then f else g a) := by
  apply List.ext_getElem?
  intro k
  rw [List.getElem?_set]
  unfold mat
  by_cases hk : k < r
  · rw [List.getElem?_map, List.getElem?_map, List.getElem?_range hk]
    by_cases e : i = k
    · subst e
      simp [hk]
    · simp [e, Ne.symm e]
  · rw [List.getElem?_map, List.getElem?_map, List.getElem?_eq_none (by simpa using hk)]
    simp [hk]
    intro e; omega
/-- A store into one element. -/
theorem mat_put {r c i : Nat} (hi : i < r) (j : Nat) (g : Nat → Nat → Nat) (v : Nat) : (mat r c g).set i ((rd_L1 (mat r c g) (i : Int)).set j ((v : Nat) : Int)) = mat r c (fun a b => if a = i ∧ b = j then v else g a b) := by
  rw [mat_row hi, rowOf_set, mat_set hi]
  apply mat_congr
  intro a b _ _
  by_cases e : a = i
  · subst e; simp
  · simp [e]
theorem replicate_mat (r c : Nat) : List.replicate r (List.replicate c (0 : Int)) = mat r c (fun _ _ => 0) := by
  unfold mat rowOf
  simp [List.map_const']
end Go.Proofs.Ytkdoilmfchlpdaa.R
end
section
/- The field of 256 elements as a field in LinAlg's sense; matrices over it as lists of lists. -/
namespace Go.Proofs.Ytkdoilmfchlpdaa.R
open Go.RowKit Go.Proofs.YtkdoilmfchlpdaaW.PrintWords Go.Proofs.YtkdoilmfchlpdaaW.PrintLast Go.Proofs.YtkdoilmfchlpdaaW.PrintMore Go.Proofs.Ytkdoilmfchlpdaa.A GP
set_option linter.unusedVariables false
set_option linter.unusedSimpArgs false

/-- The field of 256 elements. -/
structure G8 where
  v : Nat
  lt : v < 256
theorem G8.ext {a b : G8} (h : a.1 = b.1) : a = b := by
  cases a; cases b; cases h; rfl
instance : LA.Fld G8 where
  add a b := ⟨a.1 ^^^ b.1, Nat.xor_lt_two_pow (n := 8) a.2 b.2⟩
  mul a b := ⟨m8 a.1 b.1, m8_lt _ _⟩
  zero := ⟨0, by decide⟩
  one := ⟨1, by decide⟩
  iv a := ⟨i8 a.1, i8_lt _⟩
  add_comm a b := G8.ext (Nat.xor_comm _ _)
  add_assoc a b c := G8.ext (Nat.xor_assoc _ _ _)
  add_zero a := G8.ext (Nat.xor_zero _)
  add_self a := G8.ext (Nat.xor_self _)
  mul_comm a b := G8.ext (fm_comm 285 _ _)
  mul_assoc a b c := G8.ext (fm_assoc (by decide) _ _ _)
  mul_one a := G8.ext (fm_one irr8 bl285 a.2)
  mul_add a b c := G8.ext (fm_xor_right (by decide) _ _ _)
  one_ne h := absurd (congrArg G8.v h) (show ¬ (1 : Nat) = 0 by decide)
  mul_iv a h := G8.ext (by
    have h0 : a.1 ≠ 0 := fun e => h (G8.ext e)
    show fm 285 a.1 (fpow 285 a.1 254) = 1
    rw [fm_comm]
    exact fm_inv irr8 bl285 (d := 8) a.2 h0)
  dec a b := decidable_of_iff (a.1 = b.1) ⟨G8.ext, fun h => by rw [h]⟩
theorem g8_ne {a : G8} (h : a ≠ 0) : a.1 ≠ 0 := fun e => h (G8.ext e)
theorem g8_eq0 {a : G8} : a = 0 ↔ a.1 = 0 := ⟨fun h => by rw [h]; rfl, fun h => G8.ext h⟩
/-- A number as an element. -/
def t8 (n : Nat) : G8 := ⟨n % 256, Nat.mod_lt _ (by decide)⟩
theorem t8_val {n : Nat} (h : n < 256) : (t8 n).1 = n := Nat.mod_eq_of_lt h
theorem t8_of (a : G8) : t8 a.1 = a := G8.ext (t8_val a.2)
/-- A matrix over the field as a list of lists. -/
def mt (r c : Nat) (A : Nat → Nat → G8) : List (List Int) := mat r c fun i j => (A i j).1
/-- A row over the field. -/
def rw8 (c : Nat) (v : Nat → G8) : List Int := rowOf c fun j => (v j).1
theorem mt_len (r c : Nat) (A : Nat → Nat → G8) : (mt r c A).length = r := mat_len _ _ _
theorem rw8_len (c : Nat) (v : Nat → G8) : (rw8 c v).length = c := rowOf_len _ _
theorem mt_row {r i : Nat} (h : i < r) (c : Nat) (A : Nat → Nat → G8) : rd_L1 (mt r c A) (i : Int) = rw8 c (A i) := mat_row h c _
theorem rw8_get {c j : Nat} (h : j < c) (v : Nat → G8) : rd (rw8 c v) (j : Int) = ((v j).1 : Int) := rowOf_get h _
theorem mt_congr {r c : Nat} {A B : Nat → Nat → G8} (h : ∀ i j, i < r → j < c → A i j = B i j) : mt r c A = mt r c B := mat_congr (fun i j hi hj => by rw [h i j hi hj])
theorem mt_put {r c i : Nat} (hi : i < r) (j : Nat) (A : Nat → Nat → G8) (v : G8) : (mt r c A).set i ((rd_L1 (mt r c A) (i : Int)).set j ((v.1 : Nat) : Int)) = mt r c (fun a b => if a = i ∧ b = j then v else A a b) := by
  unfold mt
  rw [mat_put hi]
  exact mat_congr (fun a b _ _ => by by_cases e : a = i ∧ b = j <;> simp [e])
end Go.Proofs.Ytkdoilmfchlpdaa.R
end
section
/- What the tables of the field of 256 hold, and what their methods answer. -/
namespace Go.Proofs.Ytkdoilmfchlpdaa.R
open Go.RowKit Go.Proofs.YtkdoilmfchlpdaaW.PrintWords Go.Proofs.YtkdoilmfchlpdaaW.PrintLast Go.Proofs.YtkdoilmfchlpdaaW.PrintMore Go.Proofs.Ytkdoilmfchlpdaa.A GP
set_option linter.unusedVariables false
set_option linter.unusedSimpArgs false

def p8 (a n : Nat) : Nat := fpow 285 a n
theorem fm_comm_8 (a b : Nat) : m8 a b = m8 b a := fm_comm 285 a b
theorem fm_zero_8 (a : Nat) : m8 a 0 = 0 := fm_zero 285 a
/-- n modulo 255, from 0 on. -/
def res8 (n : Int) : Nat := (if Int.tmod n 255 < 0 then Int.tmod n 255 + 255 else Int.tmod n 255).toNat
theorem pw8_eq : ∀ n, tab8.pw n = p8 2 n
  | 0 => by unfold p8; rw [fpow_zero, pmod_one irr8 bl285]; rfl
  | n + 1 => by
    rw [show p8 2 (n + 1) = m8 (p8 2 n) 2 from fpow_succ (by decide) 2 n, ← pw8_eq n]
    show _ = fm 285 (tab8.pw n) 2
    rw [fm8_two (tab8.pw_lt n)]
    rfl
theorem pw8_inj {i j : Nat} (hi : i < 255) (hj : j < 255) (e : tab8.pw i = tab8.pw j) : i = j := by
  rw [pw8_eq, pw8_eq] at e
  exact fpow_inj irr8 bl285 ord8 (by decide) i j hi hj e
theorem lg8_pw {m : Nat} : ∀ N, N ≤ 255 → m < N → tab8.lg N (tab8.pw m) = some m
  | 0, _, h => by omega
  | N + 1, hN, h => by
    unfold tab8.lg
    by_cases e : m = N
    · subst e; rw [if_pos rfl]
    · rw [if_neg (fun k => e (pw8_inj (by omega) (by omega) k.symm))]
      exact lg8_pw N (by omega) (by omega)
theorem log8 {a : Nat} (ha : a < 256) (h0 : a ≠ 0) : ∃ i, i < 255 ∧ tab8.pw i = a ∧ tab8.lg 255 a = some i := by
  obtain ⟨i, hi, e⟩ := fpow_surj irr8 bl285 ord8 (by decide) ha h0
  have e2 : tab8.pw i = a := by rw [pw8_eq]; exact e
  exact ⟨i, hi, e2, by rw [← e2]; exact lg8_pw 255 (Nat.le_refl _) hi⟩
theorem pw8_mod (n : Nat) : tab8.pw (n % 255) = tab8.pw n := by
  rw [pw8_eq, pw8_eq]; exact (fpow_mod irr8 bl285 (by decide) (by decide) n).symm
theorem pw8_add (i j : Nat) : tab8.pw (i + j) = m8 (tab8.pw i) (tab8.pw j) := by
  rw [pw8_eq, pw8_eq, pw8_eq]; exact fpow_add (by decide) 2 i j
theorem TMul8 {a b : Nat} (ha : a < 256) (hb : b < 256) : gf8_Tables_Mul.f a b = some ((m8 a b : Nat) : Int) := by
  unfold gf8_Tables_Mul.f
  rw [if_pos (by omega), Int.toNat_natCast, Int.toNat_natCast]
  by_cases h0 : a = 0
  · subst h0
    rw [if_pos (show ((0 : Nat) : Int) = 0 from rfl), fm_comm_8, fm_zero_8]; rfl
  · rw [if_neg (by omega)]
    by_cases h1 : b = 0
    · subst h1
      rw [if_pos (show ((0 : Nat) : Int) = 0 from rfl), fm_zero_8]; rfl
    · rw [if_neg (by omega)]
      obtain ⟨i, hi, ei, li⟩ := log8 ha h0
      obtain ⟨j, hj, ej, lj⟩ := log8 hb h1
      rw [li, lj, Option.bind_some, Option.bind_some, pw8_mod, pw8_add, ei, ej]
theorem TInv8 {a : Nat} (ha : a < 256) (h0 : a ≠ 0) : gf8_Tables_Inv.f a = some (((i8 a : Nat) : Int), (0 : Int)) := by
  unfold gf8_Tables_Inv.f
  obtain ⟨i, hi, ei, li⟩ := log8 ha h0
  rw [if_pos (by omega), if_neg (by omega), Int.toNat_natCast, li, Option.bind_some]
  have e : m8 (tab8.pw ((255 - i) % 255)) a = 1 := by
    rw [pw8_mod, ← ei, ← pw8_add, show 255 - i + i = 255 by omega, ← pw8_mod]; rfl
  rw [show tab8.pw ((255 - i) % 255) = i8 a from inv_unique irr8 bl285 ha (tab8.pw_lt _) e]
theorem TInv8_zero : gf8_Tables_Inv.f 0 = some (0, 20) := by
  unfold gf8_Tables_Inv.f
  rw [if_pos (by omega), if_pos rfl]
end Go.Proofs.Ytkdoilmfchlpdaa.R
end
section
/- What the printed functions of layer 10 compute that make matrices. -/
namespace Go.Proofs.Ytkdoilmfchlpdaa.R
open Go.RowKit Go.Proofs.YtkdoilmfchlpdaaW.PrintWords Go.Proofs.YtkdoilmfchlpdaaW.PrintLast Go.Proofs.YtkdoilmfchlpdaaW.PrintMore Go.Proofs.Ytkdoilmfchlpdaa.A GP
set_option linter.unusedVariables false
set_option linter.unusedSimpArgs false

theorem wr64 {n : Nat} (h : n < 2 ^ 62) : wrap64 ((n : Int) + 1) = ((n + 1 : Nat) : Int) := by rw [wrap64_id (by omega) (by omega)]; omega
theorem blank_l0 {r c : Nat} (hc : c ≤ 281474976710656) (hr : r ≤ 11728124029610) : ∀ n i : Nat, r - i ≤ n → i ≤ r → Ev (fun k => matrix_blank.l0 k (c : Int) (List.replicate i (List.replicate c (0 : Int)) ++ List.replicate (r - i) ([] : List Int)) (r : Int) (i : Int)) (List.replicate r (List.replicate c (0 : Int))) := by
  have fin : ∀ i : Nat, ¬ i < r → i ≤ r → Ev (fun k => matrix_blank.l0 k (c : Int) (List.replicate i (List.replicate c (0 : Int)) ++ List.replicate (r - i) ([] : List Int)) (r : Int) (i : Int)) (List.replicate r (List.replicate c (0 : Int))) := by
    intro i hi hi2
    obtain rfl : i = r := by omega
    refine Ev.step (fun k => matrix_blank.l0.eq_2 _ _ _ _ k) ?_
    simp only [if_neg (show ¬ ((i : Nat) : Int) < (i : Int) by omega), Nat.sub_self, List.replicate_zero, List.append_nil]
    exact Ev.now _
  intro n
  induction n with
  | zero => intro i h hi; exact fin i (by omega) hi
  | succ n ih =>
    intro i h hi
    by_cases hlt : i < r
    · refine Ev.step (fun k => matrix_blank.l0.eq_2 _ _ _ _ k) ?_
      have hl : (List.replicate i (List.replicate c (0 : Int)) ++ List.replicate (r - i) ([] : List Int)).length = r := by simp; omega
      have hs : (List.replicate i (List.replicate c (0 : Int)) ++ List.replicate (r - i) ([] : List Int)).set i (List.replicate c (0 : Int)) = List.replicate (i + 1) (List.replicate c (0 : Int)) ++ List.replicate (r - (i + 1)) ([] : List Int) := by
        rw [List.set_append_right _ _ (by simp), List.length_replicate, Nat.sub_self, show r - i = (r - (i + 1)) + 1 by omega, List.replicate_succ, List.set_cons_zero, List.replicate_succ', List.append_assoc]
        rfl
      simp only [if_pos (show ((i : Nat) : Int) < (r : Int) by omega), if_pos (show (0 : Int) ≤ (c : Int) by omega), Int.toNat_natCast, if_pos hc, if_pos (show (0 : Int) ≤ (i : Int) by omega), hl, hs, wr64 (n := i) (by omega)]
      exact ih (i + 1) (by omega) (by omega)
    · exact fin i hlt hi
theorem Blank {r c : Nat} (hc : c ≤ 281474976710656) (hr : r ≤ 11728124029610) : Ev (fun k => matrix_blank.f k (r : Int) (c : Int)) (mat r c (fun _ _ => 0)) := by
  unfold matrix_blank.f
  simp only [if_pos (show (0 : Int) ≤ (r : Int) by omega), Int.toNat_natCast, if_pos hr, Option.bind_some, List.length_replicate]
  rw [← replicate_mat]
  have := blank_l0 hc hr r 0 (by omega) (by omega)
  simpa using this
/-- The element of Vandermonde's matrix: row i, column j. -/
def vd (i j : Nat) : Nat := p8 (i % 256) j
theorem vd_lt (i j : Nat) : vd i j < 256 := fpow_lt bl285 _ _
theorem vd_zero (i : Nat) : vd i 0 = 1 := by unfold vd p8; rw [fpow_zero, pmod_one irr8 bl285]
theorem vd_succ (i j : Nat) : vd i (j + 1) = m8 (vd i j) (i % 256) := fpow_succ (by decide) _ j
/-- Vandermonde's matrix, made as far as (i, j). -/
def vdTo (i j : Nat) : Nat → Nat → Nat := fun a b => if a < i ∨ a = i ∧ b < j then vd a b else 0
theorem vdTo_put {r c i j v : Nat} (hi : i < r) (hv : v = vd i j) : (mat r c (vdTo i j)).set i ((rd_L1 (mat r c (vdTo i j)) (i : Int)).set j ((v : Nat) : Int)) = mat r c (vdTo i (j + 1)) := by
  rw [mat_put hi, hv]
  apply mat_congr
  intro a b _ _
  unfold vdTo
  by_cases e : a = i
  · subst e
    by_cases e2 : b = j
    · subst e2; simp
    · have : b < j + 1 ↔ b < j := by omega
      simp [e2, this]
  · simp [e]
theorem vd_l1 {r c : Nat} (hr : r ≤ 256) (hc : c ≤ 512) {i : Nat} (hi : i < r)
    (next : Ev (fun k => matrix_Vandermonde.l0 k (c : Int) (mat r c (vdTo (i + 1) 0)) (r : Int) ((i + 1 : Nat) : Int)) (mat r c vd, (0 : Int))) :
    ∀ n j : Nat, c - j ≤ n → 1 ≤ j → j ≤ c → Ev (fun k => matrix_Vandermonde.l1 k (c : Int) (mat r c (vdTo i j)) (i : Int) (j : Int) (r : Int) (i : Int)) (mat r c vd, (0 : Int)) := by
  have fin : ∀ j : Nat, ¬ j < c → j ≤ c → Ev (fun k => matrix_Vandermonde.l1 k (c : Int) (mat r c (vdTo i j)) (i : Int) (j : Int) (r : Int) (i : Int)) (mat r c vd, (0 : Int)) := by
    intro j hj hj2
    obtain rfl : j = c := by omega
    refine Ev.step (fun k => matrix_Vandermonde.l1.eq_2 _ _ _ _ _ _ k) ?_
    simp only [if_neg (show ¬ ((j : Nat) : Int) < (j : Int) by omega), wr64 (n := i) (by omega)]
    have : mat r j (vdTo i j) = mat r j (vdTo (i + 1) 0) := by
      apply mat_congr
      intro a b _ hb
      unfold vdTo
      have : (a < i ∨ a = i ∧ b < j) ↔ (a < i + 1 ∨ a = i + 1 ∧ b < 0) := by omega
      simp only [this]
    rw [this]
    exact next
  intro n
  induction n with
  | zero => intro j h h1 hj; exact fin j (by omega) hj
  | succ n ih =>
    intro j h h1 hj
    by_cases hlt : j < c
    · refine Ev.step (fun k => matrix_Vandermonde.l1.eq_2 _ _ _ _ _ _ k) ?_
      have hw : wrap64 ((j : Int) - 1) = ((j - 1 : Nat) : Int) := by rw [wrap64_id (by omega) (by omega)]; omega
      have hrow : rd_L1 (mat r c (vdTo i j)) (i : Int) = rowOf c (vdTo i j i) := mat_row hi c _
      have hg : rd (rowOf c (vdTo i j i)) ((j - 1 : Nat) : Int) = ((vd i (j - 1) : Nat) : Int) := by
        rw [rowOf_get (by omega)]
        unfold vdTo
        rw [if_pos (by omega)]
      have hm : (i : Int) % 256 = ((i % 256 : Nat) : Int) := by omega
      have hput := vdTo_put (r := r) (c := c) (i := i) (j := j) (v := m8 (vd i (j - 1)) (i % 256)) hi (by rw [← vd_succ, show j - 1 + 1 = j by omega])
      rw [hrow] at hput
      simp only [if_pos (show ((j : Nat) : Int) < (c : Int) by omega), if_pos (show (0 : Int) ≤ (i : Int) by omega), mat_len, if_pos (show ((i : Nat) : Int) < (r : Int) by omega), hw, if_pos (show (0 : Int) ≤ ((j - 1 : Nat) : Int) by omega), hrow, rowOf_len, if_pos (show ((j - 1 : Nat) : Int) < (c : Int) by omega), hg, hm]
      refine Ev.bind (Mul8 (vd_lt i (j - 1)) (Nat.mod_lt _ (by decide))) ?_
      simp only [if_pos (show (0 : Int) ≤ (j : Int) by omega), Int.toNat_natCast, hput, wr64 (n := j) (by omega)]
      exact ih (j + 1) (by omega) (by omega) (by omega)
    · exact fin j hlt hj
theorem vd_l0 {r c : Nat} (hr : r ≤ 256) (hc : c ≤ 512) (hc1 : 1 ≤ c) : ∀ n i : Nat, r - i ≤ n → i ≤ r → Ev (fun k => matrix_Vandermonde.l0 k (c : Int) (mat r c (vdTo i 0)) (r : Int) (i : Int)) (mat r c vd, (0 : Int)) := by
  have fin : ∀ i : Nat, ¬ i < r → i ≤ r → Ev (fun k => matrix_Vandermonde.l0 k (c : Int) (mat r c (vdTo i 0)) (r : Int) (i : Int)) (mat r c vd, (0 : Int)) := by
    intro i hi hi2
    obtain rfl : i = r := by omega
    refine Ev.step (fun k => matrix_Vandermonde.l0.eq_2 _ _ _ _ k) ?_
    simp only [if_neg (show ¬ ((i : Nat) : Int) < (i : Int) by omega)]
    have : mat i c (vdTo i 0) = mat i c vd := by
      apply mat_congr
      intro a b ha _
      unfold vdTo
      rw [if_pos (.inl ha)]
    rw [this]
    exact Ev.now _
  intro n
  induction n with
  | zero => intro i h hi; exact fin i (by omega) hi
  | succ n ih =>
    intro i h hi
    by_cases hlt : i < r
    · refine Ev.step (fun k => matrix_Vandermonde.l0.eq_2 _ _ _ _ k) ?_
      have hrow : rd_L1 (mat r c (vdTo i 0)) (i : Int) = rowOf c (vdTo i 0 i) := mat_row hlt c _
      have hput := vdTo_put (r := r) (c := c) (i := i) (j := 0) (v := 1) hlt (vd_zero i).symm
      rw [hrow] at hput
      simp only [if_pos (show ((i : Nat) : Int) < (r : Int) by omega), if_pos (show (0 : Int) ≤ (i : Int) by omega), mat_len, hrow, rowOf_len, if_pos (show (0 : Int) < (c : Int) by omega), Int.toNat_natCast, Int.toNat_zero]
      rw [show ((1 : Int)) = ((1 : Nat) : Int) from rfl, hput]
      exact vd_l1 hr hc hlt (ih (i + 1) (by omega) (by omega)) c 1 (by omega) (by omega) hc1
    · exact fin i hlt hi
theorem Vandermonde {r c : Nat} (hr1 : 1 ≤ r) (hr : r ≤ 256) (hc1 : 1 ≤ c) (hc : c ≤ 512) : Ev (fun k => matrix_Vandermonde.f k (r : Int) (c : Int)) (mat r c vd, (0 : Int)) := by
  unfold matrix_Vandermonde.f
  simp only [if_neg (show ¬ (r : Int) < 1 by omega), if_neg (show ¬ (r : Int) > 256 by omega), if_neg (show ¬ (c : Int) < 1 by omega), decide_eq_false (show ¬ (c : Int) > 512 by omega)]
  refine Ev.step (fun k => matrix_Vandermonde.j0.eq_2 _ _ _ k) ?_
  simp only [Bool.false_eq_true, if_false]
  refine Ev.bind (Blank (r := r) (c := c) (by omega) (by omega)) ?_
  simp only [mat_len]
  have := vd_l0 hr hc hc1 r 0 (by omega) (by omega)
  rw [show mat r c (vdTo 0 0) = mat r c (fun _ _ => 0) from mat_congr (fun a b _ _ => by unfold vdTo; rw [if_neg (by omega)])] at this
  exact this
/-- What a filling has made as far as (i, j). -/
def fillTo (t : Nat → Nat → Nat) (i j : Nat) : Nat → Nat → Nat := fun a b => if a < i ∨ a = i ∧ b < j then t a b else 0
theorem fillTo_put {t : Nat → Nat → Nat} {r c i j v : Nat} (hi : i < r) (hv : v = t i j) : (mat r c (fillTo t i j)).set i ((rd_L1 (mat r c (fillTo t i j)) (i : Int)).set j ((v : Nat) : Int)) = mat r c (fillTo t i (j + 1)) := by
  rw [mat_put hi, hv]
  apply mat_congr
  intro a b _ _
  unfold fillTo
  by_cases e : a = i
  · subst e
    by_cases e2 : b = j
    · subst e2; simp
    · have : b < j + 1 ↔ b < j := by omega
      simp [e2, this]
  · simp [e]
theorem fillTo_row {t : Nat → Nat → Nat} (r c i : Nat) : mat r c (fillTo t i c) = mat r c (fillTo t (i + 1) 0) := by
  apply mat_congr
  intro a b _ hb
  unfold fillTo
  have : (a < i ∨ a = i ∧ b < c) ↔ (a < i + 1 ∨ a = i + 1 ∧ b < 0) := by omega
  simp only [this]
theorem fillTo_none {t : Nat → Nat → Nat} (r c : Nat) : mat r c (fillTo t 0 0) = mat r c (fun _ _ => 0) := mat_congr (fun a b _ _ => by unfold fillTo; rw [if_neg (by omega)])
theorem fillTo_all {t : Nat → Nat → Nat} (r c : Nat) : mat r c (fillTo t r 0) = mat r c t := mat_congr (fun a b ha _ => by unfold fillTo; rw [if_pos (.inl ha)])
theorem i8_zero : i8 0 = 0 := by
  show pmod (pp 0 254) 285 = 0
  rw [show (254 : Nat) = 253 + 1 from rfl, pp_succ, cl_zero, pmod_zero_left]
theorem TInv8_any {x : Nat} (hx : x < 256) : ∃ e : Int, gf8_Tables_Inv.f x = some (((i8 x : Nat) : Int), e) := by
  by_cases h : x = 0
  · exact ⟨20, by rw [h, i8_zero]; exact TInv8_zero⟩
  · exact ⟨0, TInv8 hx h⟩
/-- The element of Cauchy's matrix of c columns: row i, column j. -/
def cau (c i j : Nat) : Nat := i8 ((c + i) % 256 ^^^ j % 256)
theorem cau_l1 {r c : Nat} (hr : r ≤ 256) (hc : c ≤ 256) {i : Nat} (hi : i < r)
    (next : Ev (fun k => matrix_Cauchy.l0 k (c : Int) (mat r c (fillTo (cau c) (i + 1) 0)) (r : Int) ((i + 1 : Nat) : Int)) (mat r c (cau c), (0 : Int))) :
    ∀ n j : Nat, c - j ≤ n → j ≤ c → Ev (fun k => matrix_Cauchy.l1 k (c : Int) (mat r c (fillTo (cau c) i j)) (i : Int) (r : Int) (i : Int) (c : Int) (j : Int)) (mat r c (cau c), (0 : Int)) := by
  have fin : ∀ j : Nat, ¬ j < c → j ≤ c → Ev (fun k => matrix_Cauchy.l1 k (c : Int) (mat r c (fillTo (cau c) i j)) (i : Int) (r : Int) (i : Int) (c : Int) (j : Int)) (mat r c (cau c), (0 : Int)) := by
    intro j hj hj2
    obtain rfl : j = c := by omega
    refine Ev.step (fun k => matrix_Cauchy.l1.eq_2 _ _ _ _ _ _ _ k) ?_
    simp only [if_neg (show ¬ ((j : Nat) : Int) < (j : Int) by omega), wr64 (n := i) (by omega), fillTo_row]
    exact next
  intro n
  induction n with
  | zero => intro j h hj; exact fin j (by omega) hj
  | succ n ih =>
    intro j h hj
    by_cases hlt : j < c
    · refine Ev.step (fun k => matrix_Cauchy.l1.eq_2 _ _ _ _ _ _ _ k) ?_
      have hw : (wrap64 ((c : Int) + (i : Int))) % 256 = (((c + i) % 256 : Nat) : Int) := by rw [wrap64_id (by omega) (by omega)]; omega
      have hj2 : (j : Int) % 256 = ((j % 256 : Nat) : Int) := by omega
      have hx : Go.bits .xor .u8 (((c + i) % 256 : Nat) : Int) ((j % 256 : Nat) : Int) = (((c + i) % 256 ^^^ j % 256 : Nat) : Int) := bits_xor8 (Nat.mod_lt _ (by decide)) (Nat.mod_lt _ (by decide))
      have hxl : (c + i) % 256 ^^^ j % 256 < 256 := Nat.xor_lt_two_pow (n := 8) (Nat.mod_lt _ (by decide)) (Nat.mod_lt _ (by decide))
      obtain ⟨e, he⟩ := TInv8_any hxl
      have hput := fillTo_put (t := cau c) (r := r) (c := c) (i := i) (j := j) (v := i8 ((c + i) % 256 ^^^ j % 256)) hi rfl
      have hrow : rd_L1 (mat r c (fillTo (cau c) i j)) (i : Int) = rowOf c (fillTo (cau c) i j i) := mat_row hi c _
      rw [hrow] at hput
      simp only [if_pos (show ((j : Nat) : Int) < (c : Int) by omega), if_pos (show (0 : Int) ≤ (i : Int) by omega), mat_len, if_pos (show ((i : Nat) : Int) < (r : Int) by omega), hw, hj2, hx, he, Option.bind_some, if_pos (show (0 : Int) ≤ (j : Int) by omega), hrow, rowOf_len, Int.toNat_natCast, hput, wr64 (n := j) (by omega)]
      exact ih (j + 1) (by omega) (by omega)
    · exact fin j hlt hj
theorem cau_l0 {r c : Nat} (hr : r ≤ 256) (hc : c ≤ 256) : ∀ n i : Nat, r - i ≤ n → i ≤ r → Ev (fun k => matrix_Cauchy.l0 k (c : Int) (mat r c (fillTo (cau c) i 0)) (r : Int) (i : Int)) (mat r c (cau c), (0 : Int)) := by
  have fin : ∀ i : Nat, ¬ i < r → i ≤ r → Ev (fun k => matrix_Cauchy.l0 k (c : Int) (mat r c (fillTo (cau c) i 0)) (r : Int) (i : Int)) (mat r c (cau c), (0 : Int)) := by
    intro i hi hi2
    obtain rfl : i = r := by omega
    refine Ev.step (fun k => matrix_Cauchy.l0.eq_2 _ _ _ _ k) ?_
    simp only [if_neg (show ¬ ((i : Nat) : Int) < (i : Int) by omega), fillTo_all]
    exact Ev.now _
  intro n
  induction n with
  | zero => intro i h hi; exact fin i (by omega) hi
  | succ n ih =>
    intro i h hi
    by_cases hlt : i < r
    · refine Ev.step (fun k => matrix_Cauchy.l0.eq_2 _ _ _ _ k) ?_
      have hrow : rd_L1 (mat r c (fillTo (cau c) i 0)) (i : Int) = rowOf c (fillTo (cau c) i 0 i) := mat_row hlt c _
      simp only [if_pos (show ((i : Nat) : Int) < (r : Int) by omega), if_pos (show (0 : Int) ≤ (i : Int) by omega), mat_len, hrow, rowOf_len]
      exact cau_l1 hr hc hlt (ih (i + 1) (by omega) (by omega)) c 0 (by omega) (by omega)
    · exact fin i hlt hi
theorem Cauchy_mat {r c : Nat} (hr1 : 1 ≤ r) (hc1 : 1 ≤ c) (h : r + c ≤ 256) : Ev (fun k => matrix_Cauchy.f k (r : Int) (c : Int)) (mat r c (cau c), (0 : Int)) := by
  unfold matrix_Cauchy.f
  simp only [if_neg (show ¬ (r : Int) < 1 by omega), if_neg (show ¬ (r : Int) > 256 by omega), if_neg (show ¬ (c : Int) < 1 by omega), if_neg (show ¬ (c : Int) > 256 by omega), wrap64_id (n := (r : Int) + (c : Int)) (by omega) (by omega), decide_eq_false (show ¬ (r : Int) + (c : Int) > 256 by omega)]
  refine Ev.step (fun k => matrix_Cauchy.j0.eq_2 _ _ _ k) ?_
  simp only [Bool.false_eq_true, if_false, gf8_New.f, Option.bind_some]
  refine Ev.bind (Blank (r := r) (c := c) (by omega) (by omega)) ?_
  simp only [mat_len]
  rw [← fillTo_none (t := cau c)]
  exact cau_l0 (by omega) (by omega) r 0 (by omega) (by omega)
end Go.Proofs.Ytkdoilmfchlpdaa.R
end
section
/- What the printed functions of the ring compute, second part: residues, inverses, Rabin's test, orders. -/
namespace Go.Proofs.Ytkdoilmfchlpdaa.R
open Go.RowKit Go.Proofs.YtkdoilmfchlpdaaW.PrintWords Go.Proofs.YtkdoilmfchlpdaaW.PrintLast Go.Proofs.YtkdoilmfchlpdaaW.PrintMore Go.Proofs.Ytkdoilmfchlpdaa.A GP
set_option linter.unusedVariables false
set_option linter.unusedSimpArgs false

theorem isMod {a : Nat} (ha : a < 2 ^ 64) (m : Nat) : ring_isModulus.f a m = some (decide (2 ≤ bl a ∧ bl a ≤ m + 1)) := by
  unfold ring_isModulus.f
  rw [deg ha, Option.bind_some]
  by_cases h : 2 ≤ bl a
  · rw [if_pos (by omega)]
    by_cases h2 : bl a ≤ m + 1
    · rw [decide_eq_true (show (bl a : Int) - 1 ≤ m by omega), decide_eq_true ⟨h, h2⟩]
    · rw [decide_eq_false (show ¬ (bl a : Int) - 1 ≤ m by omega), decide_eq_false (fun k => h2 k.2)]
  · rw [if_neg (by omega), decide_eq_false (fun k => h k.1)]

theorem double_mod {p r d : Nat} (hp : bl p = d + 1) (hr : bl r ≤ d) : pmod (2 * r) p = if (2 * r).testBit d then 2 * r ^^^ p else 2 * r := by
  have hp0 : p ≠ 0 := bl_pos.1 (by omega)
  have h2 : bl (2 * r) ≤ d + 1 := by
    by_cases h0 : r = 0
    · subst h0; rw [Nat.mul_zero, bl_zero]; omega
    · rw [bl_double h0]; omega
  by_cases hb : (2 * r).testBit d = true
  · rw [if_pos hb]
    have h3 := bl_of_bit hb
    have h4 : bl (2 * r) = bl p := by omega
    have h5 : 2 * r ≠ 0 := bl_pos.1 (by omega)
    have h6 := bl_xor_lt h4 h5
    exact ((div_unique hp0 (a := 2 * r) (q := 1) (r := 2 * r ^^^ p) (by rw [one_cl, Nat.xor_comm (2 * r), xor_cancel_left]) (by omega)).2).symm
  · rw [if_neg hb]
    apply pmod_small
    by_cases h3 : bl (2 * r) = d + 1
    · exact absurd (top_bit h3) hb
    · omega
theorem cl_half (a b j : Nat) : cl a (b / 2 ^ j) = (if b.testBit j then a else 0) ^^^ (2 * cl a (b / 2 ^ (j + 1))) := by
  rw [cl_step, Nat.div_div_eq_div_mul, ← Nat.pow_succ, Nat.testBit_eq_decide_div_mod_eq]
  rcases Nat.mod_two_eq_zero_or_one (b / 2 ^ j) with e | e <;> rw [e] <;> simp
theorem mulMod_l0 {a b p d : Nat} (hp : bl p = d + 1) (hd : 1 ≤ d) (hd2 : d ≤ 32) (ha : bl a ≤ d) (hb : b < 2 ^ 64) : ∀ j : Nat, j ≤ d →
    Ev (fun k => ring_mulMod.l0 k a b p ((bl p : Int) - 1) (pmod (cl a (b / 2 ^ j)) p : Nat) ((j : Int) - 1)) (pmod (cl a b) p : Nat) := by
  have hp0 : p ≠ 0 := bl_pos.1 (by omega)
  have hp64 : p < 2 ^ 64 := bl_le.1 (by omega)
  have ha64 : a < 2 ^ 64 := bl_le.1 (by omega)
  have edp : (bl p : Int) - 1 = (d : Nat) := by omega
  rw [edp]
  intro j
  induction j with
  | zero =>
    intro _
    refine Ev.step (fun k => ring_mulMod.l0.eq_2 _ _ _ _ _ _ k) ?_
    simp only [if_neg (show ¬ (((0 : Nat) : Int) - 1) ≥ 0 by omega)]
    rw [Nat.pow_zero, Nat.div_one]
    exact Ev.now _
  | succ j ih =>
    intro hj
    refine Ev.step (fun k => ring_mulMod.l0.eq_2 _ _ _ _ _ _ k) ?_
    have ej : (((j + 1 : Nat) : Int) - 1) = (j : Nat) := by omega
    have hr := pmod_lt hp0 (cl a (b / 2 ^ (j + 1)))
    generalize hrr : pmod (cl a (b / 2 ^ (j + 1))) p = r at hr ⊢
    have hr2 : r < 2 ^ 32 := bl_le.1 (by omega)
    have hr3 : 2 * r < 2 ^ 64 := by omega
    rw [ej, show ((r : Int) * 2) = ((2 * r : Nat) : Int) by omega, u64_wrap_nat hr3, bit64 hr3 (by omega), bit64 hb (by omega), wrap64_id (by omega) (by omega)]
    simp only [if_pos (show ((j : Nat) : Int) ≥ 0 by omega), if_pos (show (0 : Int) ≤ ((d : Nat) : Int) by omega), if_pos (show (0 : Int) ≤ ((j : Nat) : Int) by omega)]
    have ihj := ih (by omega)
    have hdm := double_mod hp (r := r) (by omega)
    have hmain : pmod (cl a (b / 2 ^ j)) p = (if b.testBit j then a else 0) ^^^ pmod (2 * r) p := by
      have e2 : pmod (2 * cl a (b / 2 ^ (j + 1))) p = pmod (2 * r) p := by
        have := pmod_cl_right hp0 2 (cl a (b / 2 ^ (j + 1)))
        rw [hrr, cl_comm 2 r, cl_comm 2] at this
        have t1 : ∀ x, cl x 2 = 2 * x := by intro x; have := cl_pow x 1; rw [Nat.pow_one] at this; omega
        rw [t1, t1] at this
        exact this.symm
      rw [cl_half, pmod_xor hp0, e2]
      congr 1
      by_cases hbit : b.testBit j = true
      · rw [if_pos hbit]; exact pmod_small (by omega)
      · rw [if_neg hbit]; exact pmod_small (by rw [bl_zero]; omega)
    rw [hmain, hdm] at ihj
    by_cases h1 : (2 * r).testBit d = true
    · by_cases h2 : b.testBit j = true
      · simp only [h1, h2, if_true]
        rw [if_pos h1, if_pos h2] at ihj
        rw [bits_xor64 hr3 hp64, bits_xor64 (Nat.xor_lt_two_pow hr3 hp64) ha64, Nat.xor_comm _ a]
        exact ihj
      · simp only [h1, h2, if_true, if_false, Bool.false_eq_true, show ¬ ((0 : Int) = 1) by decide]
        rw [if_pos h1, if_neg h2, Nat.zero_xor] at ihj
        rw [bits_xor64 hr3 hp64]
        exact ihj
    · by_cases h2 : b.testBit j = true
      · simp only [h1, h2, if_true, if_false, Bool.false_eq_true, show ¬ ((0 : Int) = 1) by decide]
        rw [if_neg h1, if_pos h2] at ihj
        rw [bits_xor64 hr3 ha64, Nat.xor_comm _ a]
        exact ihj
      · simp only [h1, h2, if_true, if_false, Bool.false_eq_true, show ¬ ((0 : Int) = 1) by decide]
        rw [if_neg h1, if_neg h2, Nat.zero_xor] at ihj
        exact ihj
theorem mulMod {a b p : Nat} (ha : a < 2 ^ 64) (hb : b < 2 ^ 64) (hp : 2 ≤ bl p) (hp2 : bl p ≤ 33) : Ev (fun k => ring_mulMod.f k a b p) (pmod (cl a b) p : Nat) := by
  have hp0 : p ≠ 0 := bl_pos.1 (by omega)
  have hp64 : p < 2 ^ 64 := bl_le.1 (by omega)
  obtain ⟨d, hd⟩ : ∃ d, bl p = d + 1 := ⟨bl p - 1, by omega⟩
  unfold ring_mulMod.f
  refine Ev.bind (divMod hp0 ha hp64) ?_
  refine Ev.bind (divMod hp0 hb hp64) ?_
  simp only [deg hp64, Option.bind_some]
  have h1 := pmod_lt hp0 a
  have h2 := pmod_lt hp0 b
  have := mulMod_l0 hd (by omega) (by omega) (a := pmod a p) (b := pmod b p) (by omega) (pmod_lt64 hp0 hp64) d (Nat.le_refl _)
  rw [Nat.div_eq_of_lt (bl_le.1 (show bl (pmod b p) ≤ d by omega)), cl_zero, pmod_cl_left hp0, pmod_cl_right hp0] at this
  have e0 : pmod 0 p = 0 := pmod_small (by rw [bl_zero]; omega)
  rw [e0] at this
  have e1 : (d : Int) - 1 = wrap64 ((bl p : Int) - 1 - 1) := by rw [wrap64_id (by omega) (by omega)]; omega
  rw [e1] at this
  exact this
theorem MulMod {a b p : Nat} (ha : a < 2 ^ 64) (hb : b < 2 ^ 64) (hp : 2 ≤ bl p) (hp2 : bl p ≤ 33) : Ev (fun k => ring_MulMod.f k a b p) ((pmod (cl a b) p : Nat), (0 : Int)) := by
  have hp64 : p < 2 ^ 64 := bl_le.1 (by omega)
  unfold ring_MulMod.f
  have := isMod hp64 32
  rw [decide_eq_true ⟨hp, by omega⟩] at this
  simp only [show ((32 : Nat) : Int) = 32 from rfl] at this
  simp only [this, Option.bind_some, if_true]
  exact Ev.bind (mulMod ha hb hp hp2) (Ev.now _)
theorem is_mod {p : Nat} (hp64 : p < 2 ^ 64) {m : Nat} (h : 2 ≤ bl p ∧ bl p ≤ m + 1) : ring_isModulus.f p m = some true := by
  rw [isMod hp64, decide_eq_true h]

theorem InvMod_l0 {a p : Nat} (hp : 2 ≤ bl p) (hp2 : bl p ≤ 33) : ∀ (n x y s t : Nat), bl y ≤ n → x < 2 ^ 64 → y < 2 ^ 64 → bl s < bl p → bl t < bl p →
    Dv p (x ^^^ cl s a) → Dv p (y ^^^ cl t a) → ∃ q : Nat, ((pgcd x y = 1 ∧ bl q < bl p ∧ pmod (cl q a) p = 1) ∧
    Ev (fun k => ring_InvMod.l0 k p y x s t) ((q : Int), (0 : Int))) ∨ (pgcd x y ≠ 1 ∧ Ev (fun k => ring_InvMod.l0 k p y x s t) ((0 : Int), (12 : Int))) := by
  have hp0 : p ≠ 0 := bl_pos.1 (by omega)
  have hp64 : p < 2 ^ 64 := bl_le.1 (by omega)
  have fin : ∀ (x s t : Nat), x < 2 ^ 64 → bl s < bl p → Dv p (x ^^^ cl s a) → ∃ q : Nat, ((pgcd x 0 = 1 ∧ bl q < bl p ∧ pmod (cl q a) p = 1) ∧
    Ev (fun k => ring_InvMod.l0 k p (0 : Nat) x s t) ((q : Int), (0 : Int))) ∨ (pgcd x 0 ≠ 1 ∧ Ev (fun k => ring_InvMod.l0 k p (0 : Nat) x s t) ((0 : Int), (12 : Int))) := by
    intro x s t hx hs hxs
    refine ⟨pmod s p, ?_⟩
    rw [pgcd_zero]
    by_cases h1 : x = 1
    · left
      subst h1
      refine ⟨⟨rfl, pmod_lt hp0 s, ?_⟩, ?_⟩
      · rw [pmod_cl_left hp0, ← (pmod_eq_iff hp0).2 hxs]
        exact pmod_small (by rw [bl_one]; omega)
      · refine Ev.step (fun k => ring_InvMod.l0.eq_2 _ _ _ _ _ k) ?_
        simp only [if_pos (show ((0 : Nat) : Int) = 0 from rfl), if_pos (show ((1 : Nat) : Int) = 1 from rfl)]
        exact Ev.bind (divMod hp0 (bl_le.1 (by omega)) hp64) (Ev.now _)
    · right
      refine ⟨h1, ?_⟩
      refine Ev.step (fun k => ring_InvMod.l0.eq_2 _ _ _ _ _ k) ?_
      simp only [if_pos (show ((0 : Nat) : Int) = 0 from rfl), if_neg (show ¬ ((x : Nat) : Int) = 1 by omega)]
      exact Ev.now _
  intro n
  induction n with
  | zero =>
    intro x y s t h hx hy hs ht hxs hyt
    have : y = 0 := bl_eq_zero.1 (by omega)
    subst this
    exact fin x s t hx hs hxs
  | succ n ih =>
    intro x y s t h hx hy hs ht hxs hyt
    by_cases h0 : y = 0
    · subst h0; exact fin x s t hx hs hxs
    · have hq64 : pquo x y < 2 ^ 64 := by
        by_cases hq : pquo x y = 0
        · rw [hq]; exact Nat.two_pow_pos _
        · apply bl_le.1
          have e := div_eq h0 x
          have l := pmod_lt h0 x
          have e2 := bl_cl hq h0
          have hy1 := bl_pos.2 h0
          have hq1 := bl_pos.2 hq
          have hx2 := bl_le.2 hx
          rw [e] at hx2
          rw [bl_xor_of_lt (by omega)] at hx2
          omega
      have ht64 : t < 2 ^ 64 := bl_le.1 (by omega)
      have hm := pmod_lt hp0 (cl (pquo x y) t)
      have hbd := bl_xor_le (x := s) (y := pmod (cl (pquo x y) t) p) (n := bl p - 1) (by omega) (by omega)
      have key : Dv p (pmod x y ^^^ cl (s ^^^ pmod (cl (pquo x y) t) p) a) := by
        have e1 : pmod x y = x ^^^ cl (pquo x y) y := by
          have := div_eq h0 x
          rw [Nat.xor_comm] at this
          exact xor_eq_iff.1 this.symm
        have e2 : Dv p (cl (cl (pquo x y) t ^^^ pmod (cl (pquo x y) t) p) a) := (dv_xor_pmod hp0 _).mul_right a
        have e3 : Dv p (cl (pquo x y) (y ^^^ cl t a)) := hyt.mul_left _
        have e4 := (hxs.xor e3).xor e2
        rw [e1]
        have e5 : ((x ^^^ cl s a) ^^^ cl (pquo x y) (y ^^^ cl t a)) ^^^ cl (cl (pquo x y) t ^^^ pmod (cl (pquo x y) t) p) a = (x ^^^ cl (pquo x y) y) ^^^ cl (s ^^^ pmod (cl (pquo x y) t) p) a := by
          rw [cl_xor_left, cl_xor_left, cl_xor_right, cl_assoc]
          generalize cl (pquo x y) (cl t a) = z
          calc ((x ^^^ cl s a) ^^^ (cl (pquo x y) y ^^^ z)) ^^^ (z ^^^ cl (pmod (cl (pquo x y) t) p) a)
              = ((x ^^^ cl (pquo x y) y) ^^^ (cl s a ^^^ cl (pmod (cl (pquo x y) t) p) a)) ^^^ (z ^^^ z) := by ac_rfl
            _ = _ := by rw [Nat.xor_self, Nat.xor_zero]
        rwa [e5] at e4
      obtain ⟨q, hq⟩ := ih y (pmod x y) t (s ^^^ pmod (cl (pquo x y) t) p) (by have := pmod_lt h0 x; omega) hy (pmod_lt64 h0 hy) ht (by omega) hyt key
      refine ⟨q, ?_⟩
      rw [pgcd_step h0]
      have stp : ∀ r, Ev (fun k => ring_InvMod.l0 k p (pmod x y : Nat) y t (s ^^^ pmod (cl (pquo x y) t) p : Nat)) r → Ev (fun k => ring_InvMod.l0 k p y x s t) r := by
        intro r hr
        refine Ev.step (fun k => ring_InvMod.l0.eq_2 _ _ _ _ _ k) ?_
        simp only [if_neg (show ¬ ((y : Nat) : Int) = 0 by omega)]
        refine Ev.bind (divMod h0 hx hy) ?_
        refine Ev.bind (mulMod hq64 ht64 hp hp2) ?_
        rw [bits_xor64 (bl_le.1 (by omega)) (pmod_lt64 hp0 hp64)]
        exact hr
      rcases hq with ⟨h1, h2⟩ | ⟨h1, h2⟩
      · exact .inl ⟨h1, stp _ h2⟩
      · exact .inr ⟨h1, stp _ h2⟩
theorem InvMod {a p : Nat} (ha : a < 2 ^ 64) (hp : 2 ≤ bl p) (hp2 : bl p ≤ 33) :
    (pgcd a p = 1 ∧ ∃ q : Nat, bl q < bl p ∧ pmod (cl q a) p = 1 ∧ Ev (fun k => ring_InvMod.f k a p) ((q : Int), (0 : Int))) ∨ (pgcd a p ≠ 1 ∧ Ev (fun k => ring_InvMod.f k a p) ((0 : Int), (12 : Int))) := by
  have hp0 : p ≠ 0 := bl_pos.1 (by omega)
  have hp64 : p < 2 ^ 64 := bl_le.1 (by omega)
  have h1 := is_mod hp64 (m := 32) ⟨hp, by omega⟩
  simp only [show ((32 : Nat) : Int) = 32 from rfl] at h1
  obtain ⟨q, hq⟩ := InvMod_l0 (a := a) hp hp2 _ p (pmod a p) 0 1 (Nat.le_refl _) hp64 (pmod_lt64 hp0 hp64) (by rw [bl_zero]; omega) (by rw [bl_one]; omega)
    (by rw [zero_cl, Nat.xor_zero]; exact Dv.refl p) (by rw [one_cl, Nat.xor_comm]; exact dv_xor_pmod hp0 a)
  rw [pgcd_comm, pgcd_pmod hp0] at hq
  have stp : ∀ r, Ev (fun k => ring_InvMod.l0 k p (pmod a p : Nat) p (0 : Nat) (1 : Nat)) r → Ev (fun k => ring_InvMod.f k a p) r := by
    intro r hr
    unfold ring_InvMod.f
    simp only [h1, Option.bind_some, if_true]
    exact Ev.bind (divMod hp0 ha hp64) hr
  rcases hq with ⟨⟨e1, e2, e3⟩, e4⟩ | ⟨e1, e2⟩
  · exact .inl ⟨e1, q, e2, e3, stp _ e4⟩
  · exact .inr ⟨e1, stp _ e2⟩
end Go.Proofs.Ytkdoilmfchlpdaa.R
end
section
/- What the printed functions of the field of 65536 compute. -/
namespace Go.Proofs.Ytkdoilmfchlpdaa.R
open Go.RowKit Go.Proofs.YtkdoilmfchlpdaaW.PrintWords Go.Proofs.YtkdoilmfchlpdaaW.PrintLast Go.Proofs.YtkdoilmfchlpdaaW.PrintMore Go.Proofs.Ytkdoilmfchlpdaa.A GP
set_option linter.unusedVariables false
set_option linter.unusedSimpArgs false

/-- The product in the field of 65536, and the inverse. -/
def m16 (a b : Nat) : Nat := fm 65581 a b
def i16 (a : Nat) : Nat := fpow 65581 a 65534
theorem u16_wrap (n : Int) : IntKind.u16.wrap n = n % 65536 := by simp [IntKind.wrap, IntKind.bits, IntKind.signed]
theorem u16_id {n : Nat} (h : n < 65536) : IntKind.u16.wrap (n : Int) = n := by rw [u16_wrap]; omega
theorem m16_lt (a b : Nat) : m16 a b < 65536 := fm_lt bl65581 a b
theorem i16_lt (a : Nat) : i16 a < 65536 := fpow_lt bl65581 a _
theorem xor16 {a b : Nat} (ha : a < 65536) (hb : b < 65536) : a ^^^ b < 65536 := Nat.xor_lt_two_pow (n := 16) ha hb
theorem bits_xor16 {a b : Nat} (ha : a < 65536) (hb : b < 65536) : Go.bits .xor .u16 a b = ((a ^^^ b : Nat) : Int) := (bits_nat3 .u16 ha hb fun _ h => u16_id h).1
theorem bits_and16 {a b : Nat} (ha : a < 65536) (hb : b < 65536) : Go.bits .and .u16 a b = ((a &&& b : Nat) : Int) := (bits_nat3 .u16 ha hb fun _ h => u16_id h).2.2
theorem Mul16 {a b : Nat} (ha : a < 65536) (hb : b < 65536) : Ev (fun k => gf16_Mul.f k a b) (m16 a b : Nat) := by
  unfold gf16_Mul.f
  rw [u64_wrap_nat (show a < 2 ^ 64 by omega), u64_wrap_nat (show b < 2 ^ 64 by omega)]
  refine Ev.bind (MulMod (a := a) (b := b) (p := 65581) (by omega) (by omega) (by rw [bl65581]; decide) (by rw [bl65581]; decide)) ?_
  have h := m16_lt a b
  have e : pmod (cl a b) 65581 = m16 a b := rfl
  rw [e, u16_id h]
  exact Ev.now _
theorem m16_inv {a : Nat} (ha : a < 65536) (h0 : a ≠ 0) : m16 (i16 a) a = 1 := fm_inv irr16 bl65581 ha h0
theorem m16_comm (a b : Nat) : m16 a b = m16 b a := fm_comm _ a b
theorem m16_assoc (a b c : Nat) : m16 (m16 a b) c = m16 a (m16 b c) := fm_assoc (by decide) a b c
theorem m16_one {a : Nat} (ha : a < 65536) : m16 a 1 = a := fm_one irr16 bl65581 ha
theorem one_m16 {a : Nat} (ha : a < 65536) : m16 1 a = a := one_fm irr16 bl65581 ha
theorem m16_zero (a : Nat) : m16 a 0 = 0 := fm_zero _ a
theorem gcd_one {a : Nat} (ha : a < 65536) (h0 : a ≠ 0) : pgcd a 65581 = 1 := by
  rcases irr16.gcd a with k | k
  · exact absurd ((dv_iff irr16 bl65581 ha).1 k) h0
  · exact k
theorem Inv16 {a : Nat} (ha : a < 65536) (h0 : a ≠ 0) : Ev (fun k => gf16_Inv.f k a) ((i16 a : Nat), (0 : Int)) := by
  unfold gf16_Inv.f
  simp only [if_neg (show ¬ ((a : Nat) : Int) = 0 by omega)]
  rw [u64_wrap_nat (show a < 2 ^ 64 by omega)]
  rcases InvMod (a := a) (p := 65581) (by omega) (by rw [bl65581]; decide) (by rw [bl65581]; decide) with ⟨_, q, h1, h2, h3⟩ | ⟨h1, _⟩
  · refine Ev.bind h3 ?_
    have hq : q < 65536 := bl_le.1 (show bl q ≤ 16 by rw [bl65581] at h1; omega)
    have e : q = i16 a := inv_unique irr16 bl65581 ha hq h2
    simp only [← e]
    rw [u16_id hq]
    exact Ev.now _
  · exact absurd (gcd_one ha h0) h1
theorem Div16 {a b : Nat} (ha : a < 65536) (hb : b < 65536) (h0 : b ≠ 0) : Ev (fun k => gf16_Div.f k a b) ((m16 a (i16 b) : Nat), (0 : Int)) := by
  unfold gf16_Div.f
  refine Ev.bind (Inv16 hb h0) ?_
  simp only [if_true]
  exact Ev.bind (Mul16 ha (i16_lt b)) (Ev.now _)
end Go.Proofs.Ytkdoilmfchlpdaa.R
end
section
/- What the printed functions of the reference of layer 3 compute. -/
namespace Go.Proofs.Ytkdoilmfchlpdaa.R
open Go.RowKit Go.Proofs.YtkdoilmfchlpdaaW.PrintWords Go.Proofs.YtkdoilmfchlpdaaW.PrintLast Go.Proofs.YtkdoilmfchlpdaaW.PrintMore Go.Proofs.Ytkdoilmfchlpdaa.A GP
set_option linter.unusedVariables false
set_option linter.unusedSimpArgs false

theorem u32_id {n : Nat} (h : n < 2 ^ 32) : IntKind.u32.wrap (n : Int) = n := by rw [IntKind.wrap_u32]; omega
theorem bits_xor32 {a b : Nat} (ha : a < 2 ^ 32) (hb : b < 2 ^ 32) : Go.bits .xor .u32 a b = ((a ^^^ b : Nat) : Int) := (bits_nat3 .u32 ha hb fun _ h => u32_id h).1
theorem shl32 {a s : Nat} (hs : s ≤ 32) (h : a * 2 ^ s < 2 ^ 32) : shl .u32 a s = ((a * 2 ^ s : Nat) : Int) := by
  unfold shl
  rw [show IntKind.u32.bits = 32 from rfl, Int.toNat_natCast, Nat.min_eq_left hs]
  exact u32_id h
theorem bit_u16 {a s : Nat} (ha : a < 65536) (hs : s ≤ 16) : Go.bits .and .u16 (shr .u16 a s) 1 = (if a.testBit s then 1 else 0 : Int) := by
  have e : shr .u16 a s = ((a / 2 ^ s : Nat) : Int) := by
    unfold shr
    rw [show IntKind.u16.bits = 16 from rfl, Int.toNat_natCast, Nat.min_eq_left hs]
    simp
  rw [e]
  have h1 : a / 2 ^ s < 65536 := Nat.lt_of_le_of_lt (Nat.div_le_self _ _) ha
  have := bits_and16 (a := a / 2 ^ s) (b := 1) h1 (by decide)
  rw [show ((1 : Nat) : Int) = 1 from rfl] at this
  rw [this, Nat.and_one_is_mod, Nat.testBit_eq_decide_div_mod_eq]
  rcases Nat.mod_two_eq_zero_or_one (a / 2 ^ s) with e | e <;> rw [e] <;> simp
theorem bit_u32 {a s : Nat} (ha : a < 2 ^ 32) (hs : s ≤ 32) : Go.bits .and .u32 (shr .u32 a s) 1 = (if a.testBit s then 1 else 0 : Int) := by
  have e : shr .u32 a s = ((a / 2 ^ s : Nat) : Int) := by
    unfold shr
    rw [show IntKind.u32.bits = 32 from rfl, Int.toNat_natCast, Nat.min_eq_left hs]
    simp
  rw [e]
  have h1 : a / 2 ^ s < 2 ^ 32 := Nat.lt_of_le_of_lt (Nat.div_le_self _ _) ha
  have := (bits_nat3 .u32 (a := a / 2 ^ s) (b := 1) h1 (by decide) fun _ h => u32_id h).2.2
  rw [show ((1 : Nat) : Int) = 1 from rfl] at this
  rw [this, Nat.and_one_is_mod, Nat.testBit_eq_decide_div_mod_eq]
  rcases Nat.mod_two_eq_zero_or_one (a / 2 ^ s) with e | e <;> rw [e] <;> simp
/-- The second loop: the remainder from the top down. -/
theorem ref_l1 : ∀ (j p : Nat), j ≤ 15 → bl p ≤ j + 16 → Ev (fun k => culletref03_Mul.l1 k p ((j + 15 : Nat) : Int)) ((pmod p 65581 : Nat) : Int) := by
  intro j
  induction j with
  | zero =>
    intro p _ hp
    refine Ev.step (fun k => culletref03_Mul.l1.eq_2 _ _ k) ?_
    have h16 : p < 65536 := (bl_le (n := 16)).1 (by omega)
    simp only [if_neg (show ¬ ((0 + 15 : Nat) : Int) ≥ 16 by omega)]
    rw [u16_id h16, pmod_small (by rw [bl65581]; omega)]
    exact Ev.now _
  | succ j ih =>
    intro p hj hp
    refine Ev.step (fun k => culletref03_Mul.l1.eq_2 _ _ k) ?_
    have hp32 : p < 2 ^ 32 := bl_le.1 (by omega)
    have hi : IntKind.u64.wrap (((j + 1 + 15 : Nat)) : Int) = ((j + 16 : Nat) : Int) := by rw [u64_wrap_nat (by omega)]
    have hi2 : IntKind.u64.wrap (wrap64 (((j + 1 + 15 : Nat) : Int) - 16)) = ((j : Nat) : Int) := by
      rw [wrap64_id (by omega) (by omega), show ((j + 1 + 15 : Nat) : Int) - 16 = ((j : Nat) : Int) by omega, u64_wrap_nat (by omega)]
    have hi3 : wrap64 (((j + 1 + 15 : Nat) : Int) - 1) = ((j + 15 : Nat) : Int) := by rw [wrap64_id (by omega) (by omega)]; omega
    simp only [if_pos (show ((j + 1 + 15 : Nat) : Int) ≥ 16 by omega), hi, hi2, hi3, if_pos (show (0 : Int) ≤ ((j + 16 : Nat) : Int) by omega), if_pos (show (0 : Int) ≤ ((j : Nat) : Int) by omega), bit_u32 hp32 (show j + 16 ≤ 32 by omega)]
    by_cases hb : p.testBit (j + 16) = true
    · simp only [hb, if_true]
      have hsh : 65581 * 2 ^ j < 2 ^ 32 := by
        have : 2 ^ j ≤ 2 ^ 14 := Nat.pow_le_pow_right (by decide) (by omega)
        omega
      have hs := shl32 (a := 65581) (s := j) (by omega) hsh
      rw [show ((65581 : Nat) : Int) = 65581 from rfl] at hs
      rw [hs, bits_xor32 hp32 hsh]
      have ht := top_step (q := 65581) (d := 16) (i := j + 16) bl65581 (by omega) (by omega) hb
      rw [show j + 16 - 16 = j by omega] at ht
      have := ih (p ^^^ 65581 * 2 ^ j) (by omega) (by omega)
      have e : pmod (p ^^^ 65581 * 2 ^ j) 65581 = pmod p 65581 := by
        rw [pmod_xor (by decide), ← pow_cl, pmod_self_mul (by decide), Nat.xor_zero]
      rw [e] at this
      exact this
    · simp only [hb, Bool.false_eq_true, if_false, show ¬ ((0 : Int) = 1) by decide]
      have := top_none (i := j + 16) (by omega) hb
      exact ih p (by omega) (by omega)
theorem ref_l0 {a b : Nat} (ha : a < 65536) (hb : b < 65536) : ∀ (n i : Nat), 16 - i ≤ n → i ≤ 16 → Ev (fun k => culletref03_Mul.l0 k a b (cl a (b % 2 ^ i) : Nat) i) ((m16 a b : Nat) : Int) := by
  have fin : Ev (fun k => culletref03_Mul.l0 k a b (cl a (b % 2 ^ 16) : Nat) ((16 : Nat) : Int)) ((m16 a b : Nat) : Int) := by
    refine Ev.step (fun k => culletref03_Mul.l0.eq_2 _ _ _ _ k) ?_
    simp only [if_neg (show ¬ ((16 : Nat) : Int) < 16 by omega)]
    rw [Nat.mod_eq_of_lt (show b < 2 ^ 16 from hb)]
    have hl : bl (cl a b) ≤ 31 := by
      by_cases h0 : a = 0
      · subst h0; rw [zero_cl, bl_zero]; omega
      · by_cases h1 : b = 0
        · subst h1; rw [cl_zero, bl_zero]; omega
        · have := bl_cl h0 h1
          have := bl_le.2 (show a < 2 ^ 16 from ha)
          have := bl_le.2 (show b < 2 ^ 16 from hb)
          omega
    exact ref_l1 15 (cl a b) (by omega) (by omega)
  intro n
  induction n with
  | zero => intro i h hi; have : i = 16 := by omega
            subst this; exact fin
  | succ n ih =>
    intro i h hi
    by_cases hlt : i < 16
    · refine Ev.step (fun k => culletref03_Mul.l0.eq_2 _ _ _ _ k) ?_
      have hw : IntKind.u64.wrap ((i : Nat) : Int) = ((i : Nat) : Int) := u64_wrap_nat (by omega)
      have h1 : cl a (b % 2 ^ i) < 2 ^ 32 := Nat.lt_of_lt_of_le (cl_lt2 (show a < 2 ^ 16 from ha) (Nat.mod_lt _ (Nat.two_pow_pos i))) (Nat.pow_le_pow_right (by decide) (by omega))
      have h2 : a * 2 ^ i < 2 ^ 32 := by
        have h3 : a * 2 ^ i < 2 ^ 16 * 2 ^ i := Nat.mul_lt_mul_of_pos_right ha (Nat.two_pow_pos i)
        rw [← Nat.pow_add] at h3
        exact Nat.lt_of_lt_of_le h3 (Nat.pow_le_pow_right (by decide) (by omega))
      simp only [if_pos (show ((i : Nat) : Int) < 16 by omega), hw, if_pos (show (0 : Int) ≤ ((i : Nat) : Int) by omega), bit_u16 hb (show i ≤ 16 by omega)]
      rw [show ((a : Nat) : Int) % 4294967296 = (a : Nat) by omega, shl32 (by omega) h2, bits_xor32 h1 h2, wrap64_id (by omega) (by omega)]
      have := ih (i + 1) (by omega) (by omega)
      rw [mod2_succ, cl_xor_right] at this
      by_cases hbit : b.testBit i = true
      · simp only [hbit, if_true]
        rw [if_pos hbit, cl_pow] at this
        exact this
      · simp only [hbit, if_false, Bool.false_eq_true, show ¬ ((0 : Int) = 1) by decide]
        rw [if_neg hbit, cl_zero, Nat.xor_zero] at this
        exact this
    · have : i = 16 := by omega
      subst this; exact fin
theorem RefMul {a b : Nat} (ha : a < 65536) (hb : b < 65536) : Ev (fun k => culletref03_Mul.f k a b) ((m16 a b : Nat) : Int) := by
  unfold culletref03_Mul.f
  have := ref_l0 ha hb 16 0 (by omega) (by omega)
  rw [Nat.pow_zero, Nat.mod_one, cl_zero] at this
  exact this
def p16 (a n : Nat) : Nat := fpow 65581 a n
theorem p16_lt (a n : Nat) : p16 a n < 65536 := fpow_lt bl65581 a n
theorem p16_zero (a : Nat) : p16 a 0 = 1 := by unfold p16; rw [fpow_zero, pmod_one irr16 bl65581]
theorem p16_succ (a n : Nat) : p16 a (n + 1) = m16 (p16 a n) a := fpow_succ (by decide) a n
theorem p16_double (a m : Nat) : p16 (m16 a a) m = p16 a (2 * m) := by
  unfold p16 m16 fpow fm; rw [pp_pmod (by decide), ← pp_two, ← pp_mul]
theorem r_tmod2 (n : Nat) : Int.tmod ((n : Nat) : Int) 2 = ((n % 2 : Nat) : Int) := by rw [Int.tmod_eq_emod_of_nonneg (by omega)]; omega
theorem r_tdiv2 (n : Nat) : Int.tdiv ((n : Nat) : Int) 2 = ((n / 2 : Nat) : Int) := by rw [Int.tdiv_eq_ediv_of_nonneg (by omega)]; omega
theorem Power_l0 : ∀ (w n a p : Nat), n < 2 ^ w → n < 2 ^ 62 → a < 65536 → p < 65536 → Ev (fun k => culletref03_Power.l0 k a n p) ((m16 p (p16 a n) : Nat) : Int) := by
  have fin : ∀ a p : Nat, p < 65536 → Ev (fun k => culletref03_Power.l0 k a ((0 : Nat) : Int) p) ((m16 p (p16 a 0) : Nat) : Int) := by
    intro a p hp
    refine Ev.step (fun k => culletref03_Power.l0.eq_2 _ _ _ k) ?_
    simp only [if_neg (show ¬ ((0 : Nat) : Int) > 0 by omega)]
    rw [p16_zero, m16_one hp]
    exact Ev.now _
  intro w
  induction w with
  | zero => intro n a p hn _ _ hp; have : n = 0 := by omega
            subst this; exact fin a p hp
  | succ w ih =>
    intro n a p hn hn2 ha hp
    by_cases h0 : n = 0
    · subst h0; exact fin a p hp
    · refine Ev.step (fun k => culletref03_Power.l0.eq_2 _ _ _ k) ?_
      rw [r_tmod2, r_tdiv2, wrap64_id (by omega) (by omega)]
      simp only [if_pos (show ((n : Nat) : Int) > 0 by omega)]
      have hn3 : n / 2 < 2 ^ w := by rw [Nat.pow_succ] at hn; omega
      rcases Nat.mod_two_eq_zero_or_one n with e | e
      · simp only [e, show ¬ (((0 : Nat) : Int) = 1) by decide, if_false]
        refine Ev.bind (RefMul ha ha) ?_
        have := ih (n / 2) (m16 a a) p hn3 (by omega) (m16_lt a a) hp
        rw [p16_double, show 2 * (n / 2) = n by omega] at this
        exact this
      · simp only [e, show (((1 : Nat) : Int) = 1) by decide, if_true]
        refine Ev.bind (RefMul hp ha) ?_
        refine Ev.bind (RefMul ha ha) ?_
        have := ih (n / 2) (m16 a a) (m16 p a) hn3 (by omega) (m16_lt a a) (m16_lt p a)
        rw [p16_double, m16_assoc, m16_comm a (p16 a (2 * (n / 2))), ← p16_succ, show 2 * (n / 2) + 1 = n by omega] at this
        exact this
theorem Power {a n : Nat} (ha : a < 65536) (hn : n < 2 ^ 62) : Ev (fun k => culletref03_Power.f k a n) ((p16 a n : Nat) : Int) := by
  unfold culletref03_Power.f
  have := Power_l0 62 n a 1 hn hn ha (by decide)
  rw [one_m16 (p16_lt a n)] at this
  exact this
theorem RefDiv {a b : Nat} (ha : a < 65536) (hb : b < 65536) (h0 : b ≠ 0) : Ev (fun k => culletref03_Div.f k a b) (((m16 a (i16 b) : Nat) : Int), (0 : Int)) := by
  unfold culletref03_Div.f
  simp only [if_neg (show ¬ ((b : Nat) : Int) = 0 by omega)]
  refine Ev.bind (Power (n := 65534) hb (by decide)) ?_
  exact Ev.bind (RefMul ha (p16_lt b 65534)) (Ev.now _)
/-- n modulo 65535, from 0 on. -/
def res (n : Int) : Nat := (if Int.tmod n 65535 < 0 then Int.tmod n 65535 + 65535 else Int.tmod n 65535).toNat
end Go.Proofs.Ytkdoilmfchlpdaa.R
end
section
/- What the tables of the field of 65536 hold, and what their methods answer. -/
namespace Go.Proofs.Ytkdoilmfchlpdaa.R
open Go.RowKit Go.Proofs.YtkdoilmfchlpdaaW.PrintWords Go.Proofs.YtkdoilmfchlpdaaW.PrintLast Go.Proofs.YtkdoilmfchlpdaaW.PrintMore Go.Proofs.Ytkdoilmfchlpdaa.A GP
set_option linter.unusedVariables false
set_option linter.unusedSimpArgs false

theorem red16 {y : Nat} (h : 65535 < y) (h2 : y < 2 ^ 17) : y ^^^ 65581 < 65536 := by
  have hx : y ^^^ 65581 < 2 ^ 17 := Nat.xor_lt_two_pow h2 (by decide)
  have hb : (y ^^^ 65581).testBit 16 = false := by
    rw [Nat.testBit_xor]
    have : y.testBit 16 = true := by rw [Nat.testBit_eq_decide_div_mod_eq, decide_eq_true_eq]; omega
    rw [this]; decide
  rw [Nat.testBit_eq_decide_div_mod_eq, decide_eq_false_iff_not] at hb
  omega
theorem fm16_two {x : Nat} (hx : x < 65536) : fm 65581 x 2 = if 65535 < 2 * x then (2 * x) ^^^ 65581 else 2 * x := by
  have e : cl x 2 = 2 * x := by have := cl_pow x 1; rw [Nat.pow_one] at this; omega
  unfold fm
  rw [e]
  by_cases h : 65535 < 2 * x
  · rw [if_pos h]
    have h1 : pmod 65581 65581 = 0 := by
      have := pmod_self_mul (b := 65581) (by decide) 1
      rwa [cl_comm, cl_one] at this
    have h2 := pmod_xor (b := 65581) (by decide) (2 * x) 65581
    rw [h1, Nat.xor_zero, pmod_id bl65581 (red16 h (by omega))] at h2
    exact h2.symm
  · rw [if_neg h, pmod_id bl65581 (by omega)]
theorem pw16_eq : ∀ n, tab16.pw n = p16 2 n
  | 0 => by rw [p16_zero]; rfl
  | n + 1 => by
    rw [p16_succ, ← pw16_eq n]
    show _ = fm 65581 (tab16.pw n) 2
    rw [fm16_two (tab16.pw_lt n)]
    rfl
theorem pw16_inj {i j : Nat} (hi : i < 65535) (hj : j < 65535) (e : tab16.pw i = tab16.pw j) : i = j := by
  rw [pw16_eq, pw16_eq] at e
  exact fpow_inj irr16 bl65581 ord16 (by decide) i j hi hj e
theorem lg16_pw {m : Nat} : ∀ N, N ≤ 65535 → m < N → tab16.lg N (tab16.pw m) = some m
  | 0, _, h => by omega
  | N + 1, hN, h => by
    unfold tab16.lg
    by_cases e : m = N
    · subst e; rw [if_pos rfl]
    · rw [if_neg (fun k => e (pw16_inj (by omega) (by omega) k.symm))]
      exact lg16_pw N (by omega) (by omega)
theorem log16 {a : Nat} (ha : a < 65536) (h0 : a ≠ 0) : ∃ i, i < 65535 ∧ tab16.pw i = a ∧ tab16.lg 65535 a = some i := by
  obtain ⟨i, hi, e⟩ := fpow_surj irr16 bl65581 ord16 (by decide) ha h0
  have e2 : tab16.pw i = a := by rw [pw16_eq]; exact e
  exact ⟨i, hi, e2, by rw [← e2]; exact lg16_pw 65535 (Nat.le_refl _) hi⟩
theorem pw16_mod (n : Nat) : tab16.pw (n % 65535) = tab16.pw n := by
  rw [pw16_eq, pw16_eq]; exact (fpow_mod irr16 bl65581 (by decide) (by decide) n).symm
theorem pw16_add (i j : Nat) : tab16.pw (i + j) = m16 (tab16.pw i) (tab16.pw j) := by
  rw [pw16_eq, pw16_eq, pw16_eq]; exact fpow_add (by decide) 2 i j
end Go.Proofs.Ytkdoilmfchlpdaa.R
end
section
/- What the printed functions of the Cantor basis compute. -/
namespace Go.Proofs.Ytkdoilmfchlpdaa.R
open Go.RowKit Go.Proofs.YtkdoilmfchlpdaaW.PrintWords Go.Proofs.YtkdoilmfchlpdaaW.PrintLast Go.Proofs.YtkdoilmfchlpdaaW.PrintMore Go.Proofs.Ytkdoilmfchlpdaa.A GP
set_option linter.unusedVariables false
set_option linter.unusedSimpArgs false

theorem basis_getD (n : Nat) : gf16_basis.L.getD n 0 = ((BL.getD n 0 : Nat) : Int) := by
  have h : gf16_basis.L = BL.map (fun x : Nat => (x : Int)) := by decide
  rw [h, List.getD_eq_getElem?_getD, List.getD_eq_getElem?_getD, List.getElem?_map]
  cases BL[n]? <;> rfl
theorem BL_lt (n : Nat) : BL.getD n 0 < 65536 := getD_lt (by decide) n
theorem nat_div_pow (i n : Nat) : ((i : Int)) / 2 ^ n = ((i / 2 ^ n : Nat) : Int) := by simp
theorem bit_i {i n : Nat} (hi : i < 65536) : Go.bits .and .i64 ((i : Int) / 2 ^ n) 1 = (if i.testBit n then 1 else 0 : Int) := by
  rw [nat_div_pow]
  have h1 : i / 2 ^ n < 2 ^ 62 := Nat.lt_of_le_of_lt (Nat.div_le_self _ _) (by omega)
  have := bits_andi (a := i / 2 ^ n) (b := 1) h1 (by decide)
  rw [show ((1 : Nat) : Int) = 1 from rfl] at this
  rw [this, Nat.and_one_is_mod, Nat.testBit_eq_decide_div_mod_eq]
  rcases Nat.mod_two_eq_zero_or_one (i / 2 ^ n) with e | e <;> rw [e] <;> simp
theorem bit_u {i n : Nat} (hi : i < 65536) : Go.bits .and .u16 ((i : Int) / 2 ^ n) 1 = (if i.testBit n then 1 else 0 : Int) := by
  rw [nat_div_pow]
  have h1 : i / 2 ^ n < 65536 := Nat.lt_of_le_of_lt (Nat.div_le_self _ _) hi
  have := bits_and16 (a := i / 2 ^ n) (b := 1) h1 (by decide)
  rw [show ((1 : Nat) : Int) = 1 from rfl] at this
  rw [this, Nat.and_one_is_mod, Nat.testBit_eq_decide_div_mod_eq]
  rcases Nat.mod_two_eq_zero_or_one (i / 2 ^ n) with e | e <;> rw [e] <;> simp
theorem element {i : Nat} (hi : i < 65536) : gf16_element.f i = some ((wel i : Nat) : Int) := by
  unfold gf16_element.f
  rw [if_pos (by omega), if_pos (by omega)]
  have : ∀ n, gf16_element.sum (i : Int) n = ((bsum BL i n : Nat) : Int) := by
    intro n
    induction n with
    | zero => rfl
    | succ n ih =>
      rw [gf16_element.sum, bsum, bit_i hi, ih, basis_getD]
      cases i.testBit n
      · rfl
      · simp only [if_true]
        exact bits_xor16 (bsum_lt BL (fun k => BL_lt k) i n) (BL_lt n)
  rw [this 16]; rfl
theorem Element {i : Nat} (hi : i < 65536) : gf16_Element.f i = some (((wel i : Nat) : Int), (0 : Int)) := by
  unfold gf16_Element.f
  rw [if_neg (by omega), if_neg (by omega), element hi]; rfl
end Go.Proofs.Ytkdoilmfchlpdaa.R
end
