/-
Gf16Subfields: for every i and j and each of the sizes 2, 4, 16, 256: the elements of indices below it are closed under products and inverses. No condition.
-/
import Derived.Test.YtedaifgbnojojaaCantorFns
import Derived.Test.YtedaifgbnojojaaQx5
namespace Go.Proofs.Ytedaifgbnojojaa.Pure
open Go.RowKit Go.Proofs.Ytedaifgbnojojaa.Q Go.Proofs.YtedaifgbnojojaaW.PrintWords Go.Proofs.YtedaifgbnojojaaW.PrintLast Go.Proofs.YtedaifgbnojojaaW.PrintMore Go.Proofs.Ytedaifgbnojojaa.R GP
set_option linter.unusedVariables false
set_option linter.unusedSimpArgs false

/-- A mask of k low bits, of any int. -/
theorem bits_mask_int (x : Int) (k : Nat) (hk : k ≤ 8) : ∃ i : Nat, Go.bits .and .i64 x ((2 ^ k - 1 : Nat) : Int) = (i : Int) ∧ i < 2 ^ k := by
  have h1 : 2 ^ k ≤ 2 ^ 8 := Nat.pow_le_pow_right (by decide) hk
  have hp := Nat.two_pow_pos k
  have hlt : ((BitVec.ofInt 64 x) &&& (BitVec.ofInt 64 ((2 ^ k - 1 : Nat) : Int))).toNat < 2 ^ k := by
    rw [BitVec.toNat_and, BitVec.ofInt_natCast, BitVec.toNat_ofNat, Nat.mod_eq_of_lt (by omega), Nat.and_two_pow_sub_one_eq_mod]
    exact Nat.mod_lt _ hp
  refine ⟨((BitVec.ofInt 64 x) &&& (BitVec.ofInt 64 ((2 ^ k - 1 : Nat) : Int))).toNat, ?_, hlt⟩
  unfold Go.bits
  exact i64_id (Nat.lt_of_lt_of_le hlt (Nat.pow_le_pow_right (by decide) (by omega)))
theorem sub_round {x y : Int} {k : Nat} (hk1 : 1 ≤ k) (hk : k ≤ 8) (hc : ∀ i j, i < 2 ^ k → j < 2 ^ k → wix (f16 (wel i) (wel j)) < 2 ^ k) (L : List Int) (n : Int) {i : Nat} (hi : (i : Int) < n) (hil : i < L.length) (hin : n ≤ 100)
    (hv : rd L i = ((2 ^ k : Nat) : Int)) (hnext : Ev (fun q => culletlaw03_Gf16Subfields.l0 q x y L n ((i + 1 : Nat) : Int)) true) : Ev (fun q => culletlaw03_Gf16Subfields.l0 q x y L n (i : Int)) true := by
  have h1 : 2 ^ k ≤ 2 ^ 8 := Nat.pow_le_pow_right (by decide) hk
  have hp := Nat.two_pow_pos k
  obtain ⟨u, hu, hul⟩ := bits_mask_int x k hk
  obtain ⟨v, hv2, hvl⟩ := bits_mask_int y k hk
  refine Ev.step (fun k => culletlaw03_Gf16Subfields.l0.eq_2 _ _ _ _ _ k) ?_
  simp only [if_pos hi, if_pos (show (0 : Int) ≤ (i : Int) by omega), if_pos (show (i : Int) < (L.length : Int) by omega), hv]
  have hw : wrap64 (((2 ^ k : Nat) : Int) - 1) = ((2 ^ k - 1 : Nat) : Int) := by rw [wrap64_id (by omega) (by omega)]; omega
  simp only [hw, hu, hv2, Element (show u < 65536 by omega), Element (show v < 65536 by omega), Option.bind_some, if_true]
  refine Ev.bind (Mul16 (wel_lt u) (wel_lt v)) ?_
  have hm : m16 (wel u) (wel v) = f16 (wel u) (wel v) := rfl
  have hcl := hc u v hul hvl
  simp only [index (m16_lt (wel u) (wel v)), Option.bind_some]
  rw [hm]
  rw [decide_eq_false (show ¬ ((wix (f16 (wel u) (wel v)) : Nat) : Int) ≥ ((2 ^ k : Nat) : Int) by omega)]
  refine Ev.step (fun k => culletlaw03_Gf16Subfields.j2.eq_2 _ _ _ _ _ _ _ _ k) ?_
  simp only [Bool.false_eq_true, if_false]
  have hstep : wrap64 ((i : Int) + 1) = ((i + 1 : Nat) : Int) := by rw [wrap64_id (by omega) (by omega)]; omega
  rw [hstep]
  by_cases h0 : wel u = 0
  · rw [h0]
    simp only [show ((0 : Nat) : Int) = 0 from rfl, Inv16_zero, Option.bind_some, if_true]
    exact hnext
  · refine Ev.bind (Inv16 (wel_lt u) h0) ?_
    simp only [if_neg (show ¬ ((wel u : Nat) : Int) = 0 by omega), if_true, index (i16_lt (wel u)), Option.bind_some]
    have : wix (i16 (wel u)) < 2 ^ k := pow_closed hk1 hc hul 65534
    simp only [if_neg (show ¬ ((wix (i16 (wel u)) : Nat) : Int) ≥ ((2 ^ k : Nat) : Int) by omega)]
    exact hnext
theorem Gf16Subfields : culletlaw03_Gf16Subfields.Pure := by
  intro x y _ _
  apply Ev.rounds
  unfold culletlaw03_Gf16Subfields.f
  refine Ev.bind fixed ?_
  have hi : gf16_Index.f 44234 = some 2 := by
    have := index (a := 44234) (by decide)
    rw [show wix 44234 = 2 by decide +kernel] at this
    exact this
  simp only [if_true, hi, Option.bind_some, bne_self_eq_false]
  refine Ev.step (fun k => culletlaw03_Gf16Subfields.j0.eq_2 _ _ _ k) ?_
  simp only [Bool.false_eq_true, if_false, Option.bind_some]
  have hl : (([2, 4, 16, 256] : List Int).length : Int) = 4 := rfl
  rw [hl]
  refine sub_round (k := 1) (by decide) (by decide) closed1 _ _ (i := 0) (by decide) (by decide) (by decide) (by rfl) ?_
  refine sub_round (k := 2) (by decide) (by decide) closed2 _ _ (i := 1) (by decide) (by decide) (by decide) (by rfl) ?_
  refine sub_round (k := 4) (by decide) (by decide) closed4 _ _ (i := 2) (by decide) (by decide) (by decide) (by rfl) ?_
  refine sub_round (k := 8) (by decide) (by decide) closed8 _ _ (i := 3) (by decide) (by decide) (by decide) (by rfl) ?_
  refine Ev.step (fun k => culletlaw03_Gf16Subfields.l0.eq_2 _ _ _ _ _ k) ?_
  simp only [if_neg (show ¬ ((3 + 1 : Nat) : Int) < 4 by decide)]
  exact Ev.now _
end Go.Proofs.Ytedaifgbnojojaa.Pure
