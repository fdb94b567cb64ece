import Derived.Test.YtidogckochpbgaaL1
import Derived.Test.YtidogckochpbgaaAx3
import Derived.Test.YtidogckochpbgaaL2
import Derived.Test.YtidogckochpbgaaAx5
import Derived.Test.YtidogckochpbgaaAx4
import Derived.Test.YtidogckochpbgaaCx1
import Derived.Test.YtidogckochpbgaaCx2
import Derived.Test.YtidogckochpbgaaCx3
/- What the printed functions of the reference of layer 2 compute. -/
namespace Go.Proofs.Ytidogckochpbgaa.R
open Go.RowKit Go.Proofs.YtidogckochpbgaaW.PrintWords Go.Proofs.YtidogckochpbgaaW.PrintLast Go.Proofs.YtidogckochpbgaaW.PrintMore Go.Proofs.Ytidogckochpbgaa.A GP
set_option linter.unusedVariables false
set_option linter.unusedSimpArgs false

theorem bit_u8 {a s : Nat} (ha : a < 256) (hs : s ≤ 8) : Go.bits .and .u8 (shr .u8 a s) 1 = (if a.testBit s then 1 else 0 : Int) := by
  have e : shr .u8 a s = ((a / 2 ^ s : Nat) : Int) := by
    unfold shr
    rw [show IntKind.u8.bits = 8 from rfl, Int.toNat_natCast, Nat.min_eq_left hs]
    simp
  rw [e]
  have h1 : a / 2 ^ s < 256 := Nat.lt_of_le_of_lt (Nat.div_le_self _ _) ha
  have := bits_and8 (a := a / 2 ^ s) (b := 1) h1 (by decide)
  rw [show ((1 : Nat) : Int) = 1 from rfl] at this
  rw [this, Nat.and_one_is_mod, Nat.testBit_eq_decide_div_mod_eq]
  rcases Nat.mod_two_eq_zero_or_one (a / 2 ^ s) with e | e <;> rw [e] <;> simp
theorem shli {a s : Nat} (hs : s ≤ 60) (h : a * 2 ^ s < 2 ^ 62) : shl .i64 a s = ((a * 2 ^ s : Nat) : Int) := by
  unfold shl
  rw [show IntKind.i64.bits = 64 from rfl, Int.toNat_natCast, Nat.min_eq_left (by omega)]
  exact i64_id h
theorem bit_i64 {a s : Nat} (ha : a < 2 ^ 62) (hs : s ≤ 60) : Go.bits .and .i64 (shr .i64 a s) 1 = (if a.testBit s then 1 else 0 : Int) := by
  have e : shr .i64 a s = ((a / 2 ^ s : Nat) : Int) := by
    unfold shr
    rw [show IntKind.i64.bits = 64 from rfl, Int.toNat_natCast, Nat.min_eq_left (by omega)]
    simp
  rw [e]
  have h1 : a / 2 ^ s < 2 ^ 62 := Nat.lt_of_le_of_lt (Nat.div_le_self _ _) ha
  have := bits_andi (a := a / 2 ^ s) (b := 1) h1 (by decide)
  rw [show ((1 : Nat) : Int) = 1 from rfl] at this
  rw [this, Nat.and_one_is_mod, Nat.testBit_eq_decide_div_mod_eq]
  rcases Nat.mod_two_eq_zero_or_one (a / 2 ^ s) with e | e <;> rw [e] <;> simp
theorem r2_top {q p d i : Nat} (hq : bl q = d + 1) (hi : d ≤ i) (hp : bl p ≤ i + 1) (hb : p.testBit i = true) : bl (p ^^^ q * 2 ^ (i - d)) ≤ i := by
  have h1 : p < 2 ^ (i + 1) := bl_le.1 hp
  have h2 : bl (q * 2 ^ (i - d)) = i + 1 := by
    have hq0 : q ≠ 0 := by intro h; rw [h, bl_zero] at hq; omega
    have hp0 : 2 ^ (i - d) ≠ 0 := by have := Nat.two_pow_pos (i - d); omega
    have := bl_cl hp0 hq0
    have e : bl (2 ^ (i - d)) = i - d + 1 := bl_eq (Nat.le_refl _) (Nat.pow_lt_pow_right (by decide) (by omega))
    rw [← pow_cl]
    omega
  have h3 : q * 2 ^ (i - d) < 2 ^ (i + 1) := bl_le.1 (by omega)
  have hx : p ^^^ q * 2 ^ (i - d) < 2 ^ (i + 1) := Nat.xor_lt_two_pow h1 h3
  apply bl_le.2
  have ht : (p ^^^ q * 2 ^ (i - d)).testBit i = false := by
    rw [Nat.testBit_xor, hb]
    have : (q * 2 ^ (i - d)).testBit i = true := by
      have h4 : ¬ q * 2 ^ (i - d) < 2 ^ i := fun h => by have := bl_le.2 h; omega
      rw [Nat.testBit_eq_decide_div_mod_eq, decide_eq_true_eq]
      have h5 : q * 2 ^ (i - d) / 2 ^ i < 2 := (Nat.div_lt_iff_lt_mul (Nat.two_pow_pos i)).2 (by rw [Nat.pow_succ] at h3; omega)
      have h6 : 1 ≤ q * 2 ^ (i - d) / 2 ^ i := (Nat.le_div_iff_mul_le (Nat.two_pow_pos i)).2 (by omega)
      omega
    rw [this]; rfl
  apply Nat.lt_of_not_le
  intro h
  rw [Nat.testBit_eq_decide_div_mod_eq, decide_eq_false_iff_not] at ht
  apply ht
  have h5 : (p ^^^ q * 2 ^ (i - d)) / 2 ^ i < 2 := (Nat.div_lt_iff_lt_mul (Nat.two_pow_pos i)).2 (by rw [Nat.pow_succ] at hx; omega)
  have h6 : 1 ≤ (p ^^^ q * 2 ^ (i - d)) / 2 ^ i := (Nat.le_div_iff_mul_le (Nat.two_pow_pos i)).2 (by omega)
  omega
theorem r2_none {p i : Nat} (hp : bl p ≤ i + 1) (hb : ¬ p.testBit i = true) : bl p ≤ i := by
  have h1 : p < 2 ^ (i + 1) := bl_le.1 hp
  apply bl_le.2
  apply Nat.lt_of_not_le
  intro h
  apply hb
  rw [Nat.testBit_eq_decide_div_mod_eq, decide_eq_true_eq]
  have h5 : p / 2 ^ i < 2 := (Nat.div_lt_iff_lt_mul (Nat.two_pow_pos i)).2 (by rw [Nat.pow_succ] at h1; omega)
  have h6 : 1 ≤ p / 2 ^ i := (Nat.le_div_iff_mul_le (Nat.two_pow_pos i)).2 (by omega)
  omega
/-- The second loop: the remainder from the top down. -/
theorem r2_l1 : ∀ (j p : Nat), j ≤ 7 → bl p ≤ j + 8 → Ev (fun k => culletref02_Mul.l1 k p ((j + 7 : Nat) : Int)) ((pmod p 285 : Nat) : Int) := by
  intro j
  induction j with
  | zero =>
    intro p _ hp
    refine Ev.step (fun k => culletref02_Mul.l1.eq_2 _ _ k) ?_
    have h8 : p < 256 := (bl_le (n := 8)).1 (by omega)
    simp only [if_neg (show ¬ ((0 + 7 : Nat) : Int) ≥ 8 by omega)]
    rw [show ((p : Nat) : Int) % 256 = (p : Nat) by omega, pmod_small (by rw [bl285]; omega)]
    exact Ev.now _
  | succ j ih =>
    intro p hj hp
    refine Ev.step (fun k => culletref02_Mul.l1.eq_2 _ _ k) ?_
    have hp62 : p < 2 ^ 62 := Nat.lt_of_lt_of_le (bl_le.1 hp) (Nat.pow_le_pow_right (by decide) (by omega))
    have hi : IntKind.u64.wrap (((j + 1 + 7 : Nat)) : Int) = ((j + 8 : Nat) : Int) := by rw [u64_wrap_nat (by omega)]
    have hi2 : IntKind.u64.wrap (wrap64 (((j + 1 + 7 : Nat) : Int) - 8)) = ((j : Nat) : Int) := by
      rw [wrap64_id (by omega) (by omega), show ((j + 1 + 7 : Nat) : Int) - 8 = ((j : Nat) : Int) by omega, u64_wrap_nat (by omega)]
    have hi3 : wrap64 (((j + 1 + 7 : Nat) : Int) - 1) = ((j + 7 : Nat) : Int) := by rw [wrap64_id (by omega) (by omega)]; omega
    simp only [if_pos (show ((j + 1 + 7 : Nat) : Int) ≥ 8 by omega), hi, hi2, hi3, if_pos (show (0 : Int) ≤ ((j + 8 : Nat) : Int) by omega), if_pos (show (0 : Int) ≤ ((j : Nat) : Int) by omega), bit_i64 hp62 (show j + 8 ≤ 60 by omega)]
    by_cases hb : p.testBit (j + 8) = true
    · simp only [hb, if_true]
      have hsh : 285 * 2 ^ j < 2 ^ 62 := by
        have : 2 ^ j ≤ 2 ^ 6 := Nat.pow_le_pow_right (by decide) (by omega)
        omega
      have hs := shli (a := 285) (s := j) (by omega) hsh
      rw [show ((285 : Nat) : Int) = 285 from rfl] at hs
      rw [hs, bits_xori hp62 hsh]
      have ht := r2_top (q := 285) (d := 8) (i := j + 8) bl285 (by omega) (by omega) hb
      rw [show j + 8 - 8 = j by omega] at ht
      have := ih (p ^^^ 285 * 2 ^ j) (by omega) (by omega)
      have e : pmod (p ^^^ 285 * 2 ^ j) 285 = pmod p 285 := by
        rw [pmod_xor (by decide), ← pow_cl, pmod_self_mul (by decide), Nat.xor_zero]
      rw [e] at this
      exact this
    · simp only [hb, Bool.false_eq_true, if_false, show ¬ ((0 : Int) = 1) by decide]
      have := r2_none (i := j + 8) (by omega) hb
      exact ih p (by omega) (by omega)
theorem r2_mod_succ (b i : Nat) : b % 2 ^ (i + 1) = (b % 2 ^ i) ^^^ (if b.testBit i then 2 ^ i else 0) := by
  apply Nat.eq_of_testBit_eq
  intro j
  rw [Nat.testBit_xor, Nat.testBit_mod_two_pow, Nat.testBit_mod_two_pow]
  by_cases hb : b.testBit i = true
  · rw [if_pos hb, Nat.testBit_two_pow]
    by_cases e : i = j
    · subst e; simp [hb]
    · have : j < i + 1 ↔ j < i := by omega
      simp [e, this]
  · rw [if_neg hb, Nat.zero_testBit]
    by_cases e : i = j
    · subst e; simp [hb]
    · have : j < i + 1 ↔ j < i := by omega
      simp [this]
theorem r2_l0 {a b : Nat} (ha : a < 256) (hb : b < 256) : ∀ (n i : Nat), 8 - i ≤ n → i ≤ 8 → Ev (fun k => culletref02_Mul.l0 k a b (cl a (b % 2 ^ i) : Nat) i) ((m8 a b : Nat) : Int) := by
  have fin : Ev (fun k => culletref02_Mul.l0 k a b (cl a (b % 2 ^ 8) : Nat) ((8 : Nat) : Int)) ((m8 a b : Nat) : Int) := by
    refine Ev.step (fun k => culletref02_Mul.l0.eq_2 _ _ _ _ k) ?_
    simp only [if_neg (show ¬ ((8 : Nat) : Int) < 8 by omega)]
    rw [Nat.mod_eq_of_lt (show b < 2 ^ 8 from hb)]
    have hl : bl (cl a b) ≤ 15 := by
      by_cases h0 : a = 0
      · subst h0; rw [zero_cl, bl_zero]; omega
      · by_cases h1 : b = 0
        · subst h1; rw [cl_zero, bl_zero]; omega
        · have := bl_cl h0 h1
          have := bl_le.2 (show a < 2 ^ 8 from ha)
          have := bl_le.2 (show b < 2 ^ 8 from hb)
          omega
    exact r2_l1 7 (cl a b) (by omega) (by omega)
  intro n
  induction n with
  | zero => intro i h hi; have : i = 8 := by omega
            subst this; exact fin
  | succ n ih =>
    intro i h hi
    by_cases hlt : i < 8
    · refine Ev.step (fun k => culletref02_Mul.l0.eq_2 _ _ _ _ k) ?_
      have hw : IntKind.u64.wrap ((i : Nat) : Int) = ((i : Nat) : Int) := u64_wrap_nat (by omega)
      have h1 : cl a (b % 2 ^ i) < 2 ^ 62 := Nat.lt_of_lt_of_le (cl_lt2 (show a < 2 ^ 8 from ha) (Nat.mod_lt _ (Nat.two_pow_pos i))) (Nat.pow_le_pow_right (by decide) (by omega))
      have h2 : a * 2 ^ i < 2 ^ 62 := by
        have h3 : a * 2 ^ i < 2 ^ 8 * 2 ^ i := Nat.mul_lt_mul_of_pos_right ha (Nat.two_pow_pos i)
        rw [← Nat.pow_add] at h3
        exact Nat.lt_of_lt_of_le h3 (Nat.pow_le_pow_right (by decide) (by omega))
      simp only [if_pos (show ((i : Nat) : Int) < 8 by omega), hw, if_pos (show (0 : Int) ≤ ((i : Nat) : Int) by omega), bit_u8 hb (show i ≤ 8 by omega)]
      rw [wrap64_id (n := ((a : Nat) : Int)) (by omega) (by omega), shli (by omega) h2, bits_xori h1 h2, wrap64_id (by omega) (by omega)]
      have := ih (i + 1) (by omega) (by omega)
      rw [r2_mod_succ, cl_xor_right] at this
      by_cases hbit : b.testBit i = true
      · simp only [hbit, if_true]
        rw [if_pos hbit, cl_pow] at this
        exact this
      · simp only [hbit, if_false, Bool.false_eq_true, show ¬ ((0 : Int) = 1) by decide]
        rw [if_neg hbit, cl_zero, Nat.xor_zero] at this
        exact this
    · have : i = 8 := by omega
      subst this; exact fin
theorem RefMul8 {a b : Nat} (ha : a < 256) (hb : b < 256) : Ev (fun k => culletref02_Mul.f k a b) ((m8 a b : Nat) : Int) := by
  unfold culletref02_Mul.f
  have := r2_l0 ha hb 8 0 (by omega) (by omega)
  rw [Nat.pow_zero, Nat.mod_one, cl_zero] at this
  exact this
theorem RefInv8_l0 {a : Nat} (ha : a < 256) : ∀ n i : Nat, 7 - i ≤ n → i ≤ 7 → Ev (fun k => culletref02_Inv.l0 k ((p8 a (2 ^ (i + 1)) : Nat) : Int) ((p8 a (2 ^ (i + 1) - 2) : Nat) : Int) (i : Int)) (((i8 a : Nat) : Int), (0 : Int)) := by
  have hlt : ∀ n, p8 a n < 256 := fun n => fpow_lt bl285 a n
  have fin : Ev (fun k => culletref02_Inv.l0 k ((p8 a (2 ^ (7 + 1)) : Nat) : Int) ((p8 a (2 ^ (7 + 1) - 2) : Nat) : Int) ((7 : Nat) : Int)) (((i8 a : Nat) : Int), (0 : Int)) := by
    refine Ev.step (fun k => culletref02_Inv.l0.eq_2 _ _ _ k) ?_
    simp only [if_neg (show ¬ ((7 : Nat) : Int) < 7 by omega)]
    exact Ev.now _
  intro n
  induction n with
  | zero => intro i h hi; have : i = 7 := by omega
            subst this; exact fin
  | succ n ih =>
    intro i h hi
    by_cases hl : i < 7
    · refine Ev.step (fun k => culletref02_Inv.l0.eq_2 _ _ _ k) ?_
      simp only [if_pos (show ((i : Nat) : Int) < 7 by omega)]
      refine Ev.bind (RefMul8 (hlt _) (hlt _)) ?_
      refine Ev.bind (RefMul8 (hlt _) (hlt _)) ?_
      have e1 : m8 (p8 a (2 ^ (i + 1) - 2)) (p8 a (2 ^ (i + 1))) = p8 a (2 ^ (i + 1 + 1) - 2) := by
        have h2 : 2 ≤ 2 ^ (i + 1) := by have := Nat.pow_le_pow_right (n := 2) (by decide) (show 1 ≤ i + 1 by omega); omega
        unfold p8 m8
        rw [← fpow_add (by decide)]
        congr 1
        rw [Nat.pow_succ]; omega
      have e2 : m8 (p8 a (2 ^ (i + 1))) (p8 a (2 ^ (i + 1))) = p8 a (2 ^ (i + 1 + 1)) := by
        unfold p8 m8
        rw [← fpow_add (by decide)]
        congr 1
        rw [Nat.pow_succ]; omega
      rw [e1, e2, wrap64_id (by omega) (by omega)]
      exact ih (i + 1) (by omega) (by omega)
    · have : i = 7 := by omega
      subst this; exact fin
theorem RefInv8 {a : Nat} (ha : a < 256) (h0 : a ≠ 0) : Ev (fun k => culletref02_Inv.f k a) (((i8 a : Nat) : Int), (0 : Int)) := by
  unfold culletref02_Inv.f
  simp only [if_neg (show ¬ ((a : Nat) : Int) = 0 by omega)]
  refine Ev.bind (RefMul8 ha ha) ?_
  have := RefInv8_l0 ha 7 0 (by omega) (by omega)
  have e1 : m8 a a = p8 a (2 ^ (0 + 1)) := by
    unfold p8 m8
    rw [show 2 ^ (0 + 1) = 1 + 1 from rfl, fpow_add (by decide), fpow_one irr8 bl285 ha]
  have e2 : p8 a (2 ^ (0 + 1) - 2) = 1 := by unfold p8; rw [show 2 ^ (0 + 1) - 2 = 0 from rfl, fpow_zero, pmod_one irr8 bl285]
  rw [← e1, e2] at this
  exact this
theorem RefInv8_zero (k : Nat) : culletref02_Inv.f k 0 = some (0, 20) := by
  unfold culletref02_Inv.f
  rfl
end Go.Proofs.Ytidogckochpbgaa.R

/- What the printed Identity of layer 10 computes. -/
namespace Go.Proofs.Ytidogckochpbgaa.R
open Go.RowKit Go.Proofs.YtidogckochpbgaaW.PrintWords Go.Proofs.YtidogckochpbgaaW.PrintLast Go.Proofs.YtidogckochpbgaaW.PrintMore Go.Proofs.Ytidogckochpbgaa.A GP
set_option linter.unusedVariables false
set_option linter.unusedSimpArgs false

theorem mt_zero (r c : Nat) : mat r c (fun _ _ => 0) = mt r c (fun _ _ => 0) := rfl
/-- The identity, made as far as row i. -/
def oneTo (i : Nat) : Nat → Nat → G8 := fun a b => if a < i then LA.one a b else 0
theorem Ident {n : Nat} (h1 : 1 ≤ n) (h2 : n ≤ 256) : Ev (fun k => matrix_Identity.f k (n : Int)) (mt n n LA.one, (0 : Int)) := by
  have go : ∀ d i : Nat, n - i ≤ d → i ≤ n → Ev (fun k => matrix_Identity.l0 k (mt n n (oneTo i)) (n : Int) (i : Int)) (mt n n LA.one, (0 : Int)) := by
    intro d
    induction d with
    | zero =>
      intro i h hi
      obtain rfl : i = n := by omega
      refine Ev.step (fun k => matrix_Identity.l0.eq_2 _ _ _ k) ?_
      simp only [if_neg (show ¬ ((i : Nat) : Int) < (i : Int) by omega)]
      rw [mt_congr (A := oneTo i) (B := LA.one) (fun a b ha _ => by unfold oneTo; rw [if_pos ha])]
      exact Ev.now _
    | succ d ih =>
      intro i h hi
      by_cases hlt : i < n
      · refine Ev.step (fun k => matrix_Identity.l0.eq_2 _ _ _ k) ?_
        have e := mt_put (r := n) (c := n) hlt i (oneTo i) 1
        have e1 : ((((1 : G8).v : Nat)) : Int) = 1 := rfl
        rw [e1] at e
        simp only [if_pos (show ((i : Nat) : Int) < (n : Int) by omega), if_pos (show (0 : Int) ≤ (i : Int) by omega), mt_len, mt_row hlt, rw8_len, Int.toNat_natCast, wr64 (n := i) (by omega)]
        rw [← mt_row hlt, e]
        rw [mt_congr (A := fun a b => if a = i ∧ b = i then (1 : G8) else oneTo i a b) (B := oneTo (i + 1)) (fun a b _ _ => by
          unfold oneTo LA.one
          by_cases ha : a = i
          · subst ha
            by_cases hb : b = a
            · subst hb; simp
            · rw [if_neg (fun h => hb h.2), if_neg (by omega), if_pos (by omega), if_neg (fun h => hb h.symm)]
          · rw [if_neg (fun h => ha h.1)]
            have : a < i ↔ a < i + 1 := by omega
            simp only [this])]
        exact ih (i + 1) (by omega) (by omega)
      · obtain rfl : i = n := by omega
        refine Ev.step (fun k => matrix_Identity.l0.eq_2 _ _ _ k) ?_
        simp only [if_neg (show ¬ ((i : Nat) : Int) < (i : Int) by omega)]
        rw [mt_congr (A := oneTo i) (B := LA.one) (fun a b ha _ => by unfold oneTo; rw [if_pos ha])]
        exact Ev.now _
  unfold matrix_Identity.f
  simp only [if_neg (show ¬ (n : Int) < 1 by omega), decide_eq_false (show ¬ (n : Int) > 256 by omega)]
  refine Ev.step (fun k => matrix_Identity.j0.eq_2 _ _ k) ?_
  simp only [Bool.false_eq_true, if_false]
  refine Ev.bind (Blank (r := n) (c := n) (by omega) (by omega)) ?_
  simp only [mat_len]
  have := go n 0 (by omega) (by omega)
  rw [mt_congr (A := oneTo 0) (B := fun _ _ => 0) (fun a b _ _ => by unfold oneTo; rw [if_neg (by omega)])] at this
  exact this
end Go.Proofs.Ytidogckochpbgaa.R

/- The document's Identity, Vandermonde and Cauchy of layer 10. -/
namespace Go.Proofs.Ytidogckochpbgaa.R
open Go.RowKit Go.Proofs.YtidogckochpbgaaW.PrintWords Go.Proofs.YtidogckochpbgaaW.PrintLast Go.Proofs.YtidogckochpbgaaW.PrintMore Go.Proofs.Ytidogckochpbgaa.A GP
open Go.Proofs.Ytidogckochpbgaa.C (culletref10_Identity.f culletref10_Vandermonde.f culletref10_Cauchy.f culletref10_Identity.l0 culletref10_Identity.j0 culletref10_Vandermonde.l0 culletref10_Vandermonde.l1 culletref10_Vandermonde.j0 culletref10_Cauchy.l0 culletref10_Cauchy.l1 culletref10_Cauchy.j0 culletref10_Identity.l0.eq_2 culletref10_Identity.j0.eq_2 culletref10_Vandermonde.l0.eq_2 culletref10_Vandermonde.l1.eq_2 culletref10_Vandermonde.j0.eq_2 culletref10_Cauchy.l0.eq_2 culletref10_Cauchy.l1.eq_2 culletref10_Cauchy.j0.eq_2)
set_option linter.unusedVariables false
set_option linter.unusedSimpArgs false
theorem c_rd : @C.rd_L1 = @A.rd_L1 := rfl
theorem rzeros_l0 {r c : Nat} (hc : c ≤ 281474976710656) (hr : r ≤ 11728124029610) : ∀ n i : Nat, r - i ≤ n → i ≤ r → Ev (fun k => culletref10_zeros.l0 k (r : Int) (c : Int) (List.replicate i (List.replicate c (0 : Int)) ++ List.replicate (r - i) ([] : List Int)) (i : Int)) (List.replicate r (List.replicate c (0 : Int))) := by
  have fin : ∀ i : Nat, ¬ i < r → i ≤ r → Ev (fun k => culletref10_zeros.l0 k (r : Int) (c : Int) (List.replicate i (List.replicate c (0 : Int)) ++ List.replicate (r - i) ([] : List Int)) (i : Int)) (List.replicate r (List.replicate c (0 : Int))) := by
    intro i hi hi2
    obtain rfl : i = r := by omega
    refine Ev.step (fun k => culletref10_zeros.l0.eq_2 _ _ _ _ k) ?_
    simp only [if_neg (show ¬ ((i : Nat) : Int) < (i : Int) by omega), Nat.sub_self, List.replicate_zero, List.append_nil]
    exact Ev.now _
  intro n
  induction n with
  | zero => intro i h hi; exact fin i (by omega) hi
  | succ n ih =>
    intro i h hi
    by_cases hlt : i < r
    · refine Ev.step (fun k => culletref10_zeros.l0.eq_2 _ _ _ _ k) ?_
      have hl : (List.replicate i (List.replicate c (0 : Int)) ++ List.replicate (r - i) ([] : List Int)).length = r := by simp; omega
      have hs : (List.replicate i (List.replicate c (0 : Int)) ++ List.replicate (r - i) ([] : List Int)).set i (List.replicate c (0 : Int)) = List.replicate (i + 1) (List.replicate c (0 : Int)) ++ List.replicate (r - (i + 1)) ([] : List Int) := by
        rw [List.set_append_right _ _ (by simp), List.length_replicate, Nat.sub_self, show r - i = (r - (i + 1)) + 1 by omega, List.replicate_succ, List.set_cons_zero, List.replicate_succ', List.append_assoc]
        rfl
      simp only [if_pos (show ((i : Nat) : Int) < (r : Int) by omega), if_pos (show (0 : Int) ≤ (c : Int) by omega), Int.toNat_natCast, if_pos hc, if_pos (show (0 : Int) ≤ (i : Int) by omega), hl, hs, wr64 (n := i) (by omega)]
      exact ih (i + 1) (by omega) (by omega)
    · exact fin i hlt hi
theorem RZeros {r c : Nat} (hc : c ≤ 281474976710656) (hr : r ≤ 11728124029610) : Ev (fun k => culletref10_zeros.f k (r : Int) (c : Int)) (mat r c (fun _ _ => 0)) := by
  unfold culletref10_zeros.f
  simp only [if_pos (show (0 : Int) ≤ (r : Int) by omega), Int.toNat_natCast, if_pos hr]
  rw [← replicate_mat]
  have := rzeros_l0 hc hr r 0 (by omega) (by omega)
  simpa using this
theorem RIdent {n : Nat} (h1 : 1 ≤ n) (h2 : n ≤ 256) : Ev (fun k => culletref10_Identity.f k (n : Int)) (mt n n LA.one, (0 : Int)) := by
  have go : ∀ d i : Nat, n - i ≤ d → i ≤ n → Ev (fun k => culletref10_Identity.l0 k (n : Int) (mt n n (oneTo i)) (i : Int)) (mt n n LA.one, (0 : Int)) := by
    intro d
    induction d with
    | zero =>
      intro i h hi
      obtain rfl : i = n := by omega
      refine Ev.step (fun k => culletref10_Identity.l0.eq_2 _ _ _ k) ?_
      simp only [if_neg (show ¬ ((i : Nat) : Int) < (i : Int) by omega)]
      rw [mt_congr (A := oneTo i) (B := LA.one) (fun a b ha _ => by unfold oneTo; rw [if_pos ha])]
      exact Ev.now _
    | succ d ih =>
      intro i h hi
      by_cases hlt : i < n
      · refine Ev.step (fun k => culletref10_Identity.l0.eq_2 _ _ _ k) ?_
        have e := mt_put (r := n) (c := n) hlt i (oneTo i) 1
        have e1 : ((((1 : G8).v : Nat)) : Int) = 1 := rfl
        rw [e1] at e
        simp only [c_rd, if_pos (show ((i : Nat) : Int) < (n : Int) by omega), if_pos (show (0 : Int) ≤ (i : Int) by omega), mt_len, mt_row hlt, rw8_len, Int.toNat_natCast, wr64 (n := i) (by omega)]
        rw [← mt_row hlt, e]
        rw [mt_congr (A := fun a b => if a = i ∧ b = i then (1 : G8) else oneTo i a b) (B := oneTo (i + 1)) (fun a b _ _ => by
          unfold oneTo LA.one
          by_cases ha : a = i
          · subst ha
            by_cases hb : b = a
            · subst hb; simp
            · rw [if_neg (fun h => hb h.2), if_neg (by omega), if_pos (by omega), if_neg (fun h => hb h.symm)]
          · rw [if_neg (fun h => ha h.1)]
            have : a < i ↔ a < i + 1 := by omega
            simp only [this])]
        exact ih (i + 1) (by omega) (by omega)
      · obtain rfl : i = n := by omega
        refine Ev.step (fun k => culletref10_Identity.l0.eq_2 _ _ _ k) ?_
        simp only [if_neg (show ¬ ((i : Nat) : Int) < (i : Int) by omega)]
        rw [mt_congr (A := oneTo i) (B := LA.one) (fun a b ha _ => by unfold oneTo; rw [if_pos ha])]
        exact Ev.now _
  unfold culletref10_Identity.f
  simp only [if_neg (show ¬ (n : Int) < 1 by omega), decide_eq_false (show ¬ (n : Int) > 256 by omega)]
  refine Ev.step (fun k => culletref10_Identity.j0.eq_2 _ _ k) ?_
  simp only [Bool.false_eq_true, if_false]
  refine Ev.bind (RZeros (r := n) (c := n) (by omega) (by omega)) ?_
  have := go n 0 (by omega) (by omega)
  rw [mt_congr (A := oneTo 0) (B := fun _ _ => 0) (fun a b _ _ => by unfold oneTo; rw [if_neg (by omega)])] at this
  exact this
theorem RIdent_no {n : Int} (h : n < 1 ∨ n > 256) : Ev (fun k => culletref10_Identity.f k n) (([] : List (List Int)), (100 : Int)) := by
  have j : Ev (fun k => culletref10_Identity.j0 k n true) (([] : List (List Int)), (100 : Int)) := by
    refine Ev.step (fun k => culletref10_Identity.j0.eq_2 _ _ k) ?_
    simp only [if_true]
    exact Ev.now _
  unfold culletref10_Identity.f
  by_cases h1 : n < 1
  · simp only [if_pos h1]; exact j
  simp only [if_neg h1, decide_eq_true (show n > 256 by omega)]
  exact j
theorem Ident_no {n : Int} (h : n < 1 ∨ n > 256) : Ev (fun k => matrix_Identity.f k n) (([] : List (List Int)), (100 : Int)) := by
  have j : Ev (fun k => matrix_Identity.j0 k n true) (([] : List (List Int)), (100 : Int)) := by
    refine Ev.step (fun k => matrix_Identity.j0.eq_2 _ _ k) ?_
    simp only [if_true]
    exact Ev.now _
  unfold matrix_Identity.f
  by_cases h1 : n < 1
  · simp only [if_pos h1]; exact j
  simp only [if_neg h1, decide_eq_true (show n > 256 by omega)]
  exact j
theorem RVdm {r c : Nat} (hr1 : 1 ≤ r) (hr : r ≤ 256) (hc1 : 1 ≤ c) (hc : c ≤ 512) : Ev (fun k => culletref10_Vandermonde.f k (r : Int) (c : Int)) (mat r c vd, (0 : Int)) := by
  have l1 : ∀ i : Nat, i < r → Ev (fun k => culletref10_Vandermonde.l0 k (r : Int) (c : Int) (mat r c (fillTo vd (i + 1) 0)) ((i + 1 : Nat) : Int)) (mat r c vd, (0 : Int)) →
      ∀ d j : Nat, c - j ≤ d → j ≤ c → Ev (fun k => culletref10_Vandermonde.l1 k (r : Int) (c : Int) (mat r c (fillTo vd i j)) (i : Int) ((vd i j : Nat) : Int) (j : Int)) (mat r c vd, (0 : Int)) := by
    intro i hi next
    have fin : ∀ j : Nat, ¬ j < c → j ≤ c → Ev (fun k => culletref10_Vandermonde.l1 k (r : Int) (c : Int) (mat r c (fillTo vd i j)) (i : Int) ((vd i j : Nat) : Int) (j : Int)) (mat r c vd, (0 : Int)) := by
      intro j hj hj2
      obtain rfl : j = c := by omega
      refine Ev.step (fun k => culletref10_Vandermonde.l1.eq_2 _ _ _ _ _ _ k) ?_
      simp only [if_neg (show ¬ ((j : Nat) : Int) < (j : Int) by omega), wr64 (n := i) (by omega), fillTo_row]
      exact next
    intro d
    induction d with
    | zero => intro j h hj; exact fin j (by omega) hj
    | succ d ih =>
      intro j h hj
      by_cases hlt : j < c
      · refine Ev.step (fun k => culletref10_Vandermonde.l1.eq_2 _ _ _ _ _ _ k) ?_
        have hm : (i : Int) % 256 = ((i % 256 : Nat) : Int) := by omega
        have hput := fillTo_put (t := vd) (r := r) (c := c) (i := i) (j := j) (v := vd i j) hi rfl
        have hrow : A.rd_L1 (mat r c (fillTo vd i j)) (i : Int) = rowOf c (fillTo vd i j i) := mat_row hi c _
        rw [hrow] at hput
        simp only [c_rd, if_pos (show ((j : Nat) : Int) < (c : Int) by omega), if_pos (show (0 : Int) ≤ (i : Int) by omega), mat_len, if_pos (show ((i : Nat) : Int) < (r : Int) by omega), if_pos (show (0 : Int) ≤ (j : Int) by omega), hrow, rowOf_len, hm]
        refine Ev.bind (RefMul8 (vd_lt i j) (Nat.mod_lt _ (by decide))) ?_
        simp only [Int.toNat_natCast, hput, ← vd_succ, wr64 (n := j) (by omega)]
        exact ih (j + 1) (by omega) (by omega)
      · exact fin j hlt hj
  have l0 : ∀ d i : Nat, r - i ≤ d → i ≤ r → Ev (fun k => culletref10_Vandermonde.l0 k (r : Int) (c : Int) (mat r c (fillTo vd i 0)) (i : Int)) (mat r c vd, (0 : Int)) := by
    have fin : ∀ i : Nat, ¬ i < r → i ≤ r → Ev (fun k => culletref10_Vandermonde.l0 k (r : Int) (c : Int) (mat r c (fillTo vd i 0)) (i : Int)) (mat r c vd, (0 : Int)) := by
      intro i hi hi2
      obtain rfl : i = r := by omega
      refine Ev.step (fun k => culletref10_Vandermonde.l0.eq_2 _ _ _ _ k) ?_
      simp only [if_neg (show ¬ ((i : Nat) : Int) < (i : Int) by omega), fillTo_all]
      exact Ev.now _
    intro d
    induction d with
    | zero => intro i h hi; exact fin i (by omega) hi
    | succ d ih =>
      intro i h hi
      by_cases hlt : i < r
      · refine Ev.step (fun k => culletref10_Vandermonde.l0.eq_2 _ _ _ _ k) ?_
        simp only [if_pos (show ((i : Nat) : Int) < (r : Int) by omega)]
        have := l1 i hlt (ih (i + 1) (by omega) (by omega)) c 0 (by omega) (by omega)
        rw [vd_zero] at this
        exact this
      · exact fin i hlt hi
  unfold culletref10_Vandermonde.f
  simp only [if_neg (show ¬ (r : Int) < 1 by omega), if_neg (show ¬ (r : Int) > 256 by omega), if_neg (show ¬ (c : Int) < 1 by omega), decide_eq_false (show ¬ (c : Int) > 512 by omega)]
  refine Ev.step (fun k => culletref10_Vandermonde.j0.eq_2 _ _ _ k) ?_
  simp only [Bool.false_eq_true, if_false]
  refine Ev.bind (RZeros (r := r) (c := c) (by omega) (by omega)) ?_
  rw [← fillTo_none (t := vd)]
  exact l0 r 0 (by omega) (by omega)
theorem RVdm_no {r c : Int} (h : r < 1 ∨ r > 256 ∨ c < 1 ∨ c > 512) : Ev (fun k => culletref10_Vandermonde.f k r c) (([] : List (List Int)), (100 : Int)) := by
  have j : Ev (fun k => culletref10_Vandermonde.j0 k r c true) (([] : List (List Int)), (100 : Int)) := by
    refine Ev.step (fun k => culletref10_Vandermonde.j0.eq_2 _ _ _ k) ?_
    simp only [if_true]
    exact Ev.now _
  unfold culletref10_Vandermonde.f
  by_cases h1 : r < 1
  · simp only [if_pos h1]; exact j
  simp only [if_neg h1]
  by_cases h2 : r > 256
  · simp only [if_pos h2]; exact j
  simp only [if_neg h2]
  by_cases h3 : c < 1
  · simp only [if_pos h3]; exact j
  simp only [if_neg h3, decide_eq_true (show c > 512 by omega)]
  exact j
theorem RefInv8_any {a : Nat} (ha : a < 256) : ∃ e : Int, Ev (fun k => culletref02_Inv.f k a) (((i8 a : Nat) : Int), e) := by
  by_cases h : a = 0
  · subst h; exact ⟨20, by rw [i8_zero]; exact ⟨0, fun k _ => RefInv8_zero k⟩⟩
  · exact ⟨0, RefInv8 ha h⟩
theorem RCau {r c : Nat} (hr1 : 1 ≤ r) (hc1 : 1 ≤ c) (h : r + c ≤ 256) : Ev (fun k => culletref10_Cauchy.f k (r : Int) (c : Int)) (mat r c (cau c), (0 : Int)) := by
  have l1 : ∀ i : Nat, i < r → Ev (fun k => culletref10_Cauchy.l0 k (r : Int) (c : Int) (mat r c (fillTo (cau c) (i + 1) 0)) ((i + 1 : Nat) : Int)) (mat r c (cau c), (0 : Int)) →
      ∀ d j : Nat, c - j ≤ d → j ≤ c → Ev (fun k => culletref10_Cauchy.l1 k (r : Int) (c : Int) (mat r c (fillTo (cau c) i j)) (i : Int) (j : Int)) (mat r c (cau c), (0 : Int)) := by
    intro i hi next
    have fin : ∀ j : Nat, ¬ j < c → j ≤ c → Ev (fun k => culletref10_Cauchy.l1 k (r : Int) (c : Int) (mat r c (fillTo (cau c) i j)) (i : Int) (j : Int)) (mat r c (cau c), (0 : Int)) := by
      intro j hj hj2
      obtain rfl : j = c := by omega
      refine Ev.step (fun k => culletref10_Cauchy.l1.eq_2 _ _ _ _ _ k) ?_
      simp only [if_neg (show ¬ ((j : Nat) : Int) < (j : Int) by omega), wr64 (n := i) (by omega), fillTo_row]
      exact next
    intro d
    induction d with
    | zero => intro j h hj; exact fin j (by omega) hj
    | succ d ih =>
      intro j h hj
      by_cases hlt : j < c
      · refine Ev.step (fun k => culletref10_Cauchy.l1.eq_2 _ _ _ _ _ k) ?_
        have hx : (Go.bits .xor .i64 (wrap64 ((c : Int) + (i : Int))) (j : Int)) % 256 = (((c + i) % 256 ^^^ j % 256 : Nat) : Int) := by
          rw [wrap64_id (by omega) (by omega), show (c : Int) + (i : Int) = ((c + i : Nat) : Int) by omega, bits_xori (by omega) (by omega), Nat.mod_eq_of_lt (show c + i < 256 by omega), Nat.mod_eq_of_lt (show j < 256 by omega)]
          have : (c + i) ^^^ j < 256 := Nat.xor_lt_two_pow (n := 8) (by omega) (by omega)
          omega
        have hxl : (c + i) % 256 ^^^ j % 256 < 256 := Nat.xor_lt_two_pow (n := 8) (Nat.mod_lt _ (by decide)) (Nat.mod_lt _ (by decide))
        obtain ⟨e, he⟩ := RefInv8_any hxl
        have hput := fillTo_put (t := cau c) (r := r) (c := c) (i := i) (j := j) (v := i8 ((c + i) % 256 ^^^ j % 256)) hi rfl
        have hrow : A.rd_L1 (mat r c (fillTo (cau c) i j)) (i : Int) = rowOf c (fillTo (cau c) i j i) := mat_row hi c _
        rw [hrow] at hput
        simp only [c_rd, if_pos (show ((j : Nat) : Int) < (c : Int) by omega), if_pos (show (0 : Int) ≤ (i : Int) by omega), mat_len, if_pos (show ((i : Nat) : Int) < (r : Int) by omega), hx]
        refine Ev.bind he ?_
        simp only [if_pos (show (0 : Int) ≤ (j : Int) by omega), hrow, rowOf_len, if_pos (show ((j : Nat) : Int) < (c : Int) by omega), Int.toNat_natCast, hput, wr64 (n := j) (by omega)]
        exact ih (j + 1) (by omega) (by omega)
      · exact fin j hlt hj
  have l0 : ∀ d i : Nat, r - i ≤ d → i ≤ r → Ev (fun k => culletref10_Cauchy.l0 k (r : Int) (c : Int) (mat r c (fillTo (cau c) i 0)) (i : Int)) (mat r c (cau c), (0 : Int)) := by
    have fin : ∀ i : Nat, ¬ i < r → i ≤ r → Ev (fun k => culletref10_Cauchy.l0 k (r : Int) (c : Int) (mat r c (fillTo (cau c) i 0)) (i : Int)) (mat r c (cau c), (0 : Int)) := by
      intro i hi hi2
      obtain rfl : i = r := by omega
      refine Ev.step (fun k => culletref10_Cauchy.l0.eq_2 _ _ _ _ k) ?_
      simp only [if_neg (show ¬ ((i : Nat) : Int) < (i : Int) by omega), fillTo_all]
      exact Ev.now _
    intro d
    induction d with
    | zero => intro i h hi; exact fin i (by omega) hi
    | succ d ih =>
      intro i h hi
      by_cases hlt : i < r
      · refine Ev.step (fun k => culletref10_Cauchy.l0.eq_2 _ _ _ _ k) ?_
        simp only [if_pos (show ((i : Nat) : Int) < (r : Int) by omega)]
        exact l1 i hlt (ih (i + 1) (by omega) (by omega)) c 0 (by omega) (by omega)
      · exact fin i hlt hi
  unfold culletref10_Cauchy.f
  simp only [if_neg (show ¬ (r : Int) < 1 by omega), if_neg (show ¬ (r : Int) > 256 by omega), if_neg (show ¬ (c : Int) < 1 by omega), if_neg (show ¬ (c : Int) > 256 by omega), wrap64_id (n := (r : Int) + (c : Int)) (by omega) (by omega), decide_eq_false (show ¬ (r : Int) + (c : Int) > 256 by omega)]
  refine Ev.step (fun k => culletref10_Cauchy.j0.eq_2 _ _ _ k) ?_
  simp only [Bool.false_eq_true, if_false]
  refine Ev.bind (RZeros (r := r) (c := c) (by omega) (by omega)) ?_
  rw [← fillTo_none (t := cau c)]
  exact l0 r 0 (by omega) (by omega)
theorem RCau_no {r c : Int} (h : r < 1 ∨ r > 256 ∨ c < 1 ∨ c > 256 ∨ r + c > 256) : Ev (fun k => culletref10_Cauchy.f k r c) (([] : List (List Int)), (100 : Int)) := by
  have j : Ev (fun k => culletref10_Cauchy.j0 k r c true) (([] : List (List Int)), (100 : Int)) := by
    refine Ev.step (fun k => culletref10_Cauchy.j0.eq_2 _ _ _ k) ?_
    simp only [if_true]
    exact Ev.now _
  unfold culletref10_Cauchy.f
  by_cases h1 : r < 1
  · simp only [if_pos h1]; exact j
  simp only [if_neg h1]
  by_cases h3 : c < 1
  · simp only [if_pos h3]; exact j
  simp only [if_neg h3]
  by_cases h2 : r > 256
  · simp only [if_pos h2]; exact j
  simp only [if_neg h2]
  by_cases h4 : c > 256
  · simp only [if_pos h4]; exact j
  simp only [if_neg h4, wrap64_id (n := r + c) (by omega) (by omega), decide_eq_true (show r + c > 256 by omega)]
  exact j
end Go.Proofs.Ytidogckochpbgaa.R
