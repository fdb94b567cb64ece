/-
Gf16Cantor: for every two ints: the map of indices is one to one, keeps sums, and x*x + x halves the index. No condition.
-/
import Derived.Test.YtedaifgbnojojaaCantorFns
import Derived.Test.YtedaifgbnojojaaQx4
namespace Go.Proofs.Ytedaifgbnojojaa.Pure
open Go.RowKit Go.Proofs.Ytedaifgbnojojaa.Q Go.Proofs.YtedaifgbnojojaaW.PrintWords Go.Proofs.YtedaifgbnojojaaW.PrintLast Go.Proofs.YtedaifgbnojojaaW.PrintMore Go.Proofs.Ytedaifgbnojojaa.R GP
set_option linter.unusedVariables false
set_option linter.unusedSimpArgs false

theorem mask16 (x : Int) : ∃ i : Nat, Go.bits .and .i64 x 65535 = (i : Int) ∧ i < 65536 := by
  have hlt : ((BitVec.ofInt 64 x) &&& (BitVec.ofInt 64 ((2 ^ 16 - 1 : Nat) : Int))).toNat < 2 ^ 16 := by
    rw [BitVec.toNat_and, BitVec.ofInt_natCast, BitVec.toNat_ofNat, Nat.mod_eq_of_lt (by omega), Nat.and_two_pow_sub_one_eq_mod]
    exact Nat.mod_lt _ (by decide)
  refine ⟨((BitVec.ofInt 64 x) &&& (BitVec.ofInt 64 ((2 ^ 16 - 1 : Nat) : Int))).toNat, ?_, hlt⟩
  unfold Go.bits
  exact i64_id (Nat.lt_of_lt_of_le hlt (by decide))
theorem u16_any (x : Int) : ∃ i : Nat, IntKind.u16.wrap x = (i : Int) ∧ i < 65536 := by
  rw [u16_wrap]
  exact ⟨(x % 65536).toNat, by omega, by omega⟩
theorem pow_at {t : Nat} (h : t < 16) : shl .i64 1 (IntKind.u64.wrap (t : Int)) = ((2 ^ t : Nat) : Int) := by
  have hp : (2 : Nat) ^ t ≤ 2 ^ 15 := Nat.pow_le_pow_right (by decide) (by omega)
  rw [u64_wrap_nat (by omega)]
  exact (range16 (P := fun t => shl .i64 1 ((t : Nat) : Int) = ((2 ^ t : Nat) : Int)) (by decide +kernel)) t h
theorem wel_pow {t : Nat} (h : t < 16) : wel (2 ^ t) = BL.getD t 0 := (range16 (P := fun t => wel (2 ^ t) = BL.getD t 0) (by decide +kernel)) t h
theorem basis_len : gf16_basis.L.length = 16 := rfl
theorem indexed_l0 (x : Int) : ∀ m i : Nat, 16 - i ≤ m → i ≤ 16 → Ev (fun k => culletlaw03_indexed.l0 k x gf16_basis.L 16 (i : Int)) true := by
  have fin : ∀ i : Nat, ¬ i < 16 → Ev (fun k => culletlaw03_indexed.l0 k x gf16_basis.L 16 (i : Int)) true := by
    intro i hi
    refine Ev.step (fun k => culletlaw03_indexed.l0.eq_2 _ _ _ _ k) ?_
    simp only [if_neg (show ¬ ((i : Nat) : Int) < 16 by omega)]
    by_cases h0 : x < 0 ∨ 65535 < x
    · rw [Element_none h0]
      simp only [Option.bind_some, if_true, beq_self_eq_true]
      by_cases h1 : x ≥ 0
      · simp only [if_pos h1, if_neg (show ¬ x ≤ 65535 by omega)]; exact Ev.now _
      · simp only [if_neg h1]; exact Ev.now _
    · obtain ⟨n, rfl⟩ : ∃ n : Nat, x = (n : Int) := ⟨x.toNat, by omega⟩
      rw [Element (show n < 65536 by omega)]
      simp only [Option.bind_some, if_pos (show ((n : Nat) : Int) ≥ 0 by omega), if_pos (show ((n : Nat) : Int) ≤ 65535 by omega), beq_self_eq_true]
      exact Ev.now _
  intro m
  induction m with
  | zero => intro i h _; exact fin i (by omega)
  | succ m ih =>
    intro i h hi
    by_cases hlt : i < 16
    · have hp : (2 : Nat) ^ i ≤ 2 ^ 15 := Nat.pow_le_pow_right (by decide) (by omega)
      refine Ev.step (fun k => culletlaw03_indexed.l0.eq_2 _ _ _ _ k) ?_
      have hw : (0 : Int) ≤ IntKind.u64.wrap (i : Int) := by rw [u64_wrap_nat (by omega)]; omega
      have hr : rd gf16_basis.L (i : Int) = ((BL.getD i 0 : Nat) : Int) := by
        unfold rd
        rw [Int.toNat_natCast, basis_getD]
      simp only [if_pos (show ((i : Nat) : Int) < 16 by omega), if_pos hw, pow_at hlt, Element (show 2 ^ i < 65536 by omega), Option.bind_some, if_true, if_pos (show (0 : Int) ≤ ((i : Nat) : Int) by omega), basis_len, if_pos (show ((i : Nat) : Int) < ((16 : Nat) : Int) by omega), hr, wel_pow hlt]
      rw [wrap64_id (by omega) (by omega)]
      exact ih (i + 1) (by omega) (by omega)
    · exact fin i hlt
theorem indexed {a : Nat} (ha : a < 65536) (x : Int) : Ev (fun k => culletlaw03_indexed.f k a x) true := by
  unfold culletlaw03_indexed.f gf16_Basis.f
  have h1 : rd gf16_basis.L 0 = 1 := rfl
  simp only [Option.bind_some, basis_len, h1, show (((16 : Nat) : Int) = 16) from rfl, if_true, if_pos (show (0 : Int) < 16 by decide), bne_self_eq_false]
  refine Ev.step (fun k => culletlaw03_indexed.j0.eq_2 _ _ _ _ k) ?_
  have hw := wix_lt a
  simp only [Bool.false_eq_true, if_false, index ha, Option.bind_some, Element hw, wel_wix a ha, if_neg (show ¬ ((wix a : Nat) : Int) < 0 by omega), if_neg (show ¬ ((wix a : Nat) : Int) > 65535 by omega), if_true, bne_self_eq_false]
  refine Ev.step (fun k => culletlaw03_indexed.j1.eq_2 _ _ _ k) ?_
  simp only [Bool.false_eq_true, if_false, basis_len]
  exact indexed_l0 x 16 0 (by omega) (by omega)
theorem Gf16Cantor : culletlaw03_Gf16Cantor.Pure := by
  intro x y _ _
  apply Ev.rounds
  unfold culletlaw03_Gf16Cantor.f
  obtain ⟨a, ha, hal⟩ := u16_any y
  obtain ⟨b, hb, hbl⟩ := u16_any x
  obtain ⟨i, hi, hil⟩ := mask16 x
  obtain ⟨j, hj, hjl⟩ := mask16 y
  rw [ha, hb]
  refine Ev.bind (indexed hal x) ?_
  simp only [if_true]
  refine Ev.bind (indexed hbl y) ?_
  simp only [Bool.not_true]
  refine Ev.step (fun k => culletlaw03_Gf16Cantor.j0.eq_2 _ _ _ k) ?_
  have hx : i ^^^ j < 65536 := Nat.xor_lt_two_pow (n := 16) hil hjl
  have hh : ((i : Nat) : Int) / 2 = ((i / 2 : Nat) : Int) := by omega
  simp only [Bool.false_eq_true, if_false, hi, hj, bits_xori (show i < 2 ^ 62 by omega) (show j < 2 ^ 62 by omega), hh, Element hil, Element hjl, Element hx, Element (show i / 2 < 65536 by omega), Option.bind_some, if_true, bne_self_eq_false]
  refine Ev.step (fun k => culletlaw03_Gf16Cantor.j1.eq_2 _ _ _ _ _ _ _ k) ?_
  have hs : Go.bits .xor .u16 ((m16 (wel i) (wel i) : Nat) : Int) (wel i : Nat) = ((sy (wel i) : Nat) : Int) := bits_xor16 (m16_lt _ _) (wel_lt i)
  simp only [Bool.false_eq_true, if_false, bits_xor16 (wel_lt i) (wel_lt j), wel_xor, if_true]
  refine Ev.bind (Mul16 (wel_lt i) (wel_lt i)) ?_
  have hi1 := index (wel_lt i)
  rw [wix_wel i hil] at hi1
  have hi2 := index (wel_lt (i ^^^ j))
  rw [wix_wel _ hx, wel_xor] at hi2
  simp only [hs, sy_wel i hil, if_true, hi1, hi2, Option.bind_some, bits_xori (show i < 2 ^ 62 by omega) (show j < 2 ^ 62 by omega), beq_self_eq_true]
  exact Ev.now _
end Go.Proofs.Ytedaifgbnojojaa.Pure
