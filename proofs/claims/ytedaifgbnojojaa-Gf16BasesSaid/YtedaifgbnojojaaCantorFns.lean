/- What the printed functions of the Cantor basis compute. -/
import Derived.Test.YtedaifgbnojojaaGf16Fns
import Derived.Test.YtedaifgbnojojaaCantor
import Derived.Test.YtedaifgbnojojaaAx2
namespace Go.Proofs.Ytedaifgbnojojaa.R
open Go.RowKit Go.Proofs.YtedaifgbnojojaaW.PrintWords Go.Proofs.YtedaifgbnojojaaW.PrintLast Go.Proofs.YtedaifgbnojojaaW.PrintMore Go.Proofs.Ytedaifgbnojojaa.A GP
set_option linter.unusedVariables false
set_option linter.unusedSimpArgs false

theorem basis_getD (n : Nat) : gf16_basis.L.getD n 0 = ((BL.getD n 0 : Nat) : Int) := by
  have h : gf16_basis.L = BL.map (fun x : Nat => (x : Int)) := by decide
  rw [h, List.getD_eq_getElem?_getD, List.getD_eq_getElem?_getD, List.getElem?_map]
  cases BL[n]? <;> rfl
theorem indices_getD (n : Nat) : gf16_indices.L.getD n 0 = ((IL.getD n 0 : Nat) : Int) := by
  have h : gf16_indices.L = IL.map (fun x : Nat => (x : Int)) := by decide
  rw [h, List.getD_eq_getElem?_getD, List.getD_eq_getElem?_getD, List.getElem?_map]
  cases IL[n]? <;> rfl
theorem BL_lt (n : Nat) : BL.getD n 0 < 65536 := getD_lt (by decide) n
theorem IL_lt (n : Nat) : IL.getD n 0 < 65536 := getD_lt (by decide) n
theorem nat_div_pow (i n : Nat) : ((i : Int)) / 2 ^ n = ((i / 2 ^ n : Nat) : Int) := by simp
theorem bit_i {i n : Nat} (hi : i < 65536) : Go.bits .and .i64 ((i : Int) / 2 ^ n) 1 = (if i.testBit n then 1 else 0 : Int) := by
  rw [nat_div_pow]
  have h1 : i / 2 ^ n < 2 ^ 62 := Nat.lt_of_le_of_lt (Nat.div_le_self _ _) (by omega)
  have := bits_andi (a := i / 2 ^ n) (b := 1) h1 (by decide)
  rw [show ((1 : Nat) : Int) = 1 from rfl] at this
  rw [this, Nat.and_one_is_mod, Nat.testBit_eq_decide_div_mod_eq]
  rcases Nat.mod_two_eq_zero_or_one (i / 2 ^ n) with e | e <;> rw [e] <;> simp
theorem bit_u {i n : Nat} (hi : i < 65536) : Go.bits .and .u16 ((i : Int) / 2 ^ n) 1 = (if i.testBit n then 1 else 0 : Int) := by
  rw [nat_div_pow]
  have h1 : i / 2 ^ n < 65536 := Nat.lt_of_le_of_lt (Nat.div_le_self _ _) hi
  have := bits_and16 (a := i / 2 ^ n) (b := 1) h1 (by decide)
  rw [show ((1 : Nat) : Int) = 1 from rfl] at this
  rw [this, Nat.and_one_is_mod, Nat.testBit_eq_decide_div_mod_eq]
  rcases Nat.mod_two_eq_zero_or_one (i / 2 ^ n) with e | e <;> rw [e] <;> simp
theorem element {i : Nat} (hi : i < 65536) : gf16_element.f i = some ((wel i : Nat) : Int) := by
  unfold gf16_element.f
  rw [if_pos (by omega), if_pos (by omega)]
  have : ∀ n, gf16_element.sum (i : Int) n = ((bsum BL i n : Nat) : Int) := by
    intro n
    induction n with
    | zero => rfl
    | succ n ih =>
      rw [gf16_element.sum, bsum, bit_i hi, ih, basis_getD]
      cases i.testBit n
      · rfl
      · simp only [if_true]
        exact bits_xor16 (bsum_lt BL (fun k => BL_lt k) i n) (BL_lt n)
  rw [this 16]; rfl
theorem index {a : Nat} (ha : a < 65536) : gf16_Index.f a = some ((wix a : Nat) : Int) := by
  unfold gf16_Index.f
  rw [if_pos (by omega), if_pos (by omega)]
  have : ∀ n, gf16_Index.sum (a : Int) n = ((bsum IL a n : Nat) : Int) := by
    intro n
    induction n with
    | zero => rfl
    | succ n ih =>
      rw [gf16_Index.sum, bsum, bit_u ha, ih, indices_getD]
      cases a.testBit n
      · rfl
      · simp only [if_true]
        have h1 := bsum_lt IL (fun k => IL_lt k) a n
        have h2 := IL_lt n
        exact bits_xori (by omega) (by omega)
  rw [this 16]; rfl
theorem Element {i : Nat} (hi : i < 65536) : gf16_Element.f i = some (((wel i : Nat) : Int), (0 : Int)) := by
  unfold gf16_Element.f
  rw [if_neg (by omega), if_neg (by omega), element hi]; rfl
theorem Element_none {i : Int} (h : i < 0 ∨ 65535 < i) : gf16_Element.f i = some (0, 31) := by
  unfold gf16_Element.f
  by_cases h0 : i < 0
  · rw [if_pos h0]
  · rw [if_neg h0, if_pos (by omega)]
theorem Trace_l0 : ∀ (n i a s : Nat), 16 - i ≤ n → i ≤ 16 → a < 65536 → s < 65536 → Ev (fun k => gf16_Trace.l0 k a s i) ((s ^^^ trn a (16 - i) : Nat) : Int) := by
  intro n
  induction n with
  | zero =>
    intro i a s h h2 ha hs
    have : i = 16 := by omega
    subst this
    refine Ev.step (fun k => gf16_Trace.l0.eq_2 _ _ _ k) ?_
    simp only [if_neg (show ¬ ((16 : Nat) : Int) < 16 by omega)]
    rw [wrap64_id (by omega) (by omega), Nat.sub_self, trn, Nat.xor_zero]
    exact Ev.now _
  | succ n ih =>
    intro i a s h h2 ha hs
    by_cases hlt : i < 16
    · refine Ev.step (fun k => gf16_Trace.l0.eq_2 _ _ _ k) ?_
      simp only [if_pos (show ((i : Nat) : Int) < 16 by omega)]
      refine Ev.bind (Mul16 ha ha) ?_
      rw [bits_xor16 hs ha, wrap64_id (by omega) (by omega)]
      have := ih (i + 1) (m16 a a) (s ^^^ a) (by omega) (by omega) (m16_lt a a) (xor16 hs ha)
      rw [show 16 - i = (16 - (i + 1)) + 1 by omega, trn]
      have e : (s ^^^ a) ^^^ trn (m16 a a) (16 - (i + 1)) = s ^^^ (trn (f16 a a) (16 - (i + 1)) ^^^ a) := by
        have : m16 a a = f16 a a := rfl
        rw [this]; ac_rfl
      rw [e] at this
      exact this
    · have : i = 16 := by omega
      subst this
      refine Ev.step (fun k => gf16_Trace.l0.eq_2 _ _ _ k) ?_
      simp only [if_neg (show ¬ ((16 : Nat) : Int) < 16 by omega)]
      rw [wrap64_id (by omega) (by omega), Nat.sub_self, trn, Nat.xor_zero]
      exact Ev.now _
theorem Trace16 {a : Nat} (ha : a < 65536) : Ev (fun k => gf16_Trace.f k a) ((tr a : Nat) : Int) := by
  unfold gf16_Trace.f
  have := Trace_l0 16 0 a 0 (by omega) (by omega) ha (by decide)
  rw [Nat.zero_xor] at this
  exact this
/-- The even one of two. -/
def even (y : Nat) : Nat := y - y % 2
theorem bits_andNot1 {a : Nat} (ha : a < 65536) : Go.bits .andNot .u16 a 1 = ((even a : Nat) : Int) := by
  have h : ∀ x : Fin 65536, True := fun _ => trivial
  have e1 : (BitVec.ofInt 16 (a : Int) &&& ~~~ (BitVec.ofInt 16 1)).toNat = even a := by
    have e2 : (BitVec.ofInt 16 (1 : Int)) = BitVec.ofNat 16 1 := rfl
    rw [BitVec.ofInt_natCast, e2, BitVec.toNat_and, BitVec.toNat_not, BitVec.toNat_ofNat, BitVec.toNat_ofNat, Nat.mod_eq_of_lt ha]
    show a &&& 65534 = even a
    unfold even
    apply Nat.eq_of_testBit_eq
    intro i
    rw [Nat.testBit_and]
    cases i with
    | zero =>
      have : (a - a % 2) % 2 = 0 := by omega
      simp [Nat.testBit_zero, this]
    | succ i =>
      rw [Nat.testBit_succ, Nat.testBit_succ, Nat.testBit_succ, show (a - a % 2) / 2 = a / 2 by omega]
      by_cases hi : i < 15
      · have : (65534 / 2).testBit i = true := by
          have : ∀ i, i < 15 → (65534 / 2).testBit i = true := by decide
          exact this i hi
        rw [this, Bool.and_true]
      · have : (a / 2).testBit i = false := Nat.testBit_lt_two_pow (Nat.lt_of_lt_of_le (show a / 2 < 2 ^ 15 by omega) (Nat.pow_le_pow_right (by decide) (by omega)))
        rw [this, Bool.false_and]
  unfold Go.bits
  show IntKind.u16.wrap (((BitVec.ofInt 16 (a : Int) &&& ~~~ (BitVec.ofInt 16 1)).toNat : Nat) : Int) = _
  rw [e1, u16_id (by unfold even; omega)]
theorem Root_yes {a : Nat} (ha : a < 65536) (h : wix a < 32768) : gf16_Root.f a = some (((even (wel (2 * wix a)) : Nat) : Int), (0 : Int)) := by
  unfold gf16_Root.f
  rw [index ha, Option.bind_some, if_neg (by omega), wrap64_id (by omega) (by omega), show (2 : Int) * ((wix a : Nat) : Int) = ((2 * wix a : Nat) : Int) by omega, element (by omega), Option.bind_some, bits_andNot1 (wel_lt _)]
theorem Root_no {a : Nat} (ha : a < 65536) (h : ¬ wix a < 32768) : gf16_Root.f a = some (0, 30) := by
  unfold gf16_Root.f
  rw [index ha, Option.bind_some, if_pos (by omega)]
theorem xor_one_even {y : Nat} (h : y % 2 = 1) : even y = y ^^^ 1 := by
  unfold even
  apply Nat.eq_of_testBit_eq
  intro i
  rw [Nat.testBit_xor]
  cases i with
  | zero => simp [Nat.testBit_zero, h]; omega
  | succ i => rw [Nat.testBit_succ, Nat.testBit_succ, Nat.testBit_succ, show (y - y % 2) / 2 = y / 2 by omega]; simp
theorem sy_one : sy 1 = 0 := by rw [syf_eq (by decide)]; decide +kernel
theorem sy_even (y : Nat) : sy (even y) = sy y := by
  rcases Nat.mod_two_eq_zero_or_one y with e | e
  · have : even y = y := by unfold even; omega
    rw [this]
  · rw [xor_one_even e, sy_xor, sy_one, Nat.xor_zero]
theorem even_lt {y : Nat} (h : y < 65536) : even y < 65536 := by unfold even; omega
end Go.Proofs.Ytedaifgbnojojaa.R
