/- What the printed functions of the Cantor basis compute. -/
import Derived.Test.YtklkcenffajfeaaGf16Fns
import Derived.Test.YtklkcenffajfeaaCantor
import Derived.Test.YtklkcenffajfeaaAx2
namespace Go.Proofs.Ytklkcenffajfeaa.R
open Go.RowKit Go.Proofs.YtklkcenffajfeaaW.PrintWords Go.Proofs.YtklkcenffajfeaaW.PrintLast Go.Proofs.YtklkcenffajfeaaW.PrintMore Go.Proofs.Ytklkcenffajfeaa.A GP
set_option linter.unusedVariables false
set_option linter.unusedSimpArgs false

theorem basis_getD (n : Nat) : gf16_basis.L.getD n 0 = ((BL.getD n 0 : Nat) : Int) := by
  have h : gf16_basis.L = BL.map (fun x : Nat => (x : Int)) := by decide
  rw [h, List.getD_eq_getElem?_getD, List.getD_eq_getElem?_getD, List.getElem?_map]
  cases BL[n]? <;> rfl
theorem BL_lt (n : Nat) : BL.getD n 0 < 65536 := getD_lt (by decide) n
theorem IL_lt (n : Nat) : IL.getD n 0 < 65536 := getD_lt (by decide) n
theorem nat_div_pow (i n : Nat) : ((i : Int)) / 2 ^ n = ((i / 2 ^ n : Nat) : Int) := by simp
theorem bit_i {i n : Nat} (hi : i < 65536) : Go.bits .and .i64 ((i : Int) / 2 ^ n) 1 = (if i.testBit n then 1 else 0 : Int) := by
  rw [nat_div_pow]
  have h1 : i / 2 ^ n < 2 ^ 62 := Nat.lt_of_le_of_lt (Nat.div_le_self _ _) (by omega)
  have := bits_andi (a := i / 2 ^ n) (b := 1) h1 (by decide)
  rw [show ((1 : Nat) : Int) = 1 from rfl] at this
  rw [this, Nat.and_one_is_mod, Nat.testBit_eq_decide_div_mod_eq]
  rcases Nat.mod_two_eq_zero_or_one (i / 2 ^ n) with e | e <;> rw [e] <;> simp
theorem bit_u {i n : Nat} (hi : i < 65536) : Go.bits .and .u16 ((i : Int) / 2 ^ n) 1 = (if i.testBit n then 1 else 0 : Int) := by
  rw [nat_div_pow]
  have h1 : i / 2 ^ n < 65536 := Nat.lt_of_le_of_lt (Nat.div_le_self _ _) hi
  have := bits_and16 (a := i / 2 ^ n) (b := 1) h1 (by decide)
  rw [show ((1 : Nat) : Int) = 1 from rfl] at this
  rw [this, Nat.and_one_is_mod, Nat.testBit_eq_decide_div_mod_eq]
  rcases Nat.mod_two_eq_zero_or_one (i / 2 ^ n) with e | e <;> rw [e] <;> simp
theorem element {i : Nat} (hi : i < 65536) : gf16_element.f i = some ((wel i : Nat) : Int) := by
  unfold gf16_element.f
  rw [if_pos (by omega), if_pos (by omega)]
  have : ∀ n, gf16_element.sum (i : Int) n = ((bsum BL i n : Nat) : Int) := by
    intro n
    induction n with
    | zero => rfl
    | succ n ih =>
      rw [gf16_element.sum, bsum, bit_i hi, ih, basis_getD]
      cases i.testBit n
      · rfl
      · simp only [if_true]
        exact bits_xor16 (bsum_lt BL (fun k => BL_lt k) i n) (BL_lt n)
  rw [this 16]; rfl
theorem Element {i : Nat} (hi : i < 65536) : gf16_Element.f i = some (((wel i : Nat) : Int), (0 : Int)) := by
  unfold gf16_Element.f
  rw [if_neg (by omega), if_neg (by omega), element hi]; rfl
theorem Element_none {i : Int} (h : i < 0 ∨ 65535 < i) : gf16_Element.f i = some (0, 31) := by
  unfold gf16_Element.f
  by_cases h0 : i < 0
  · rw [if_pos h0]
  · rw [if_neg h0, if_pos (by omega)]
end Go.Proofs.Ytklkcenffajfeaa.R
