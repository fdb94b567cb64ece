/-
WholeBasis: for every two u16: the map from indices to elements is linear and one to one over the Cantor basis, whose elements give each other as y*y + y. No condition.
-/
import Derived.Test.YtedaifgbnojojaaCantorFns
import Derived.Test.YtedaifgbnojojaaQx5
namespace Go.Proofs.Ytedaifgbnojojaa.Pure
open Go.RowKit Go.Proofs.Ytedaifgbnojojaa.Q Go.Proofs.YtedaifgbnojojaaW.PrintWords Go.Proofs.YtedaifgbnojojaaW.PrintLast Go.Proofs.YtedaifgbnojojaaW.PrintMore Go.Proofs.Ytedaifgbnojojaa.R GP
set_option linter.unusedVariables false
set_option linter.unusedSimpArgs false

theorem wb_len : gf16_basis.L.length = 16 := rfl
theorem wb_sy {t : Nat} (h : t < 15) : m16 (BL.getD (t + 1) 0) (BL.getD (t + 1) 0) ^^^ BL.getD (t + 1) 0 = BL.getD t 0 := by
  have e1 : BL.getD (t + 1) 0 = wel (2 ^ (t + 1)) := ((range16 (P := fun t => wel (2 ^ t) = BL.getD t 0) (by decide +kernel)) (t + 1) (by omega)).symm
  have e2 : BL.getD t 0 = wel (2 ^ t) := ((range16 (P := fun t => wel (2 ^ t) = BL.getD t 0) (by decide +kernel)) t (by omega)).symm
  have hp : (2 : Nat) ^ (t + 1) ≤ 2 ^ 15 := Nat.pow_le_pow_right (by decide) (by omega)
  rw [e1, e2]
  have := sy_wel (2 ^ (t + 1)) (by omega)
  rw [show (2 : Nat) ^ (t + 1) / 2 = 2 ^ t by rw [Nat.pow_succ]; omega] at this
  exact this
theorem wb_even {t : Nat} (h : t < 15) : BL.getD (t + 1) 0 &&& 1 = 0 := (range16 (P := fun t => t = 0 ∨ BL.getD t 0 &&& 1 = 0) (by decide +kernel)) (t + 1) (by omega) |>.resolve_left (by omega)
theorem wb_l0 {i : Nat} (hi : i < 65536) : ∀ m t : Nat, 16 - t ≤ m → t ≤ 16 → Ev (fun k => cullettop_WholeBasis.l0 k i (wel i : Nat) gf16_basis.L ((bsum BL i t : Nat) : Int) gf16_basis.L 16 (t : Int)) true := by
  have fin : ∀ t : Nat, ¬ t < 16 → t ≤ 16 → Ev (fun k => cullettop_WholeBasis.l0 k i (wel i : Nat) gf16_basis.L ((bsum BL i t : Nat) : Int) gf16_basis.L 16 (t : Int)) true := by
    intro t ht htl
    obtain rfl : t = 16 := by omega
    refine Ev.step (fun k => cullettop_WholeBasis.l0.eq_2 _ _ _ _ _ _ _ k) ?_
    simp only [if_neg (show ¬ ((16 : Nat) : Int) < 16 by decide)]
    have : bsum BL i 16 = wel i := rfl
    rw [this, beq_self_eq_true]
    exact Ev.now _
  intro m
  induction m with
  | zero => intro t h ht; exact fin t (by omega) ht
  | succ m ih =>
    intro t h ht
    by_cases hlt : t < 16
    · have hr : rd gf16_basis.L (t : Int) = ((BL.getD t 0 : Nat) : Int) := by
        unfold rd
        rw [Int.toNat_natCast, basis_getD]
      have hb := BL_lt t
      have hbs := bsum_lt BL (getD_lt (by decide)) i t
      have hs : shr .u16 (i : Int) (t : Int) = ((i / 2 ^ t : Nat) : Int) := by
        unfold shr
        rw [Int.toNat_natCast, Nat.min_eq_left (show t ≤ IntKind.u16.bits by simp [IntKind.bits]; omega), nat_div_pow]
      have hd : i / 2 ^ t < 65536 := Nat.lt_of_le_of_lt (Nat.div_le_self _ _) hi
      have hbit : Go.bits .and .u16 ((i / 2 ^ t : Nat) : Int) 1 = (if i.testBit t then 1 else 0 : Int) := by
        rw [← nat_div_pow]; exact bit_u hi
      have next : Ev (fun k => cullettop_WholeBasis.j3 k i (wel i : Nat) gf16_basis.L ((bsum BL i (t + 1) : Nat) : Int) (t : Int) ((BL.getD t 0 : Nat) : Int) gf16_basis.L 16 (t : Int)) true := by
        refine Ev.step (fun k => cullettop_WholeBasis.j3.eq_2 _ _ _ _ _ _ _ _ _ k) ?_
        rw [wrap64_id (n := (t : Int) + 1) (by omega) (by omega)]
        by_cases h0 : t = 0
        · subst h0
          simp only [show ((0 : Nat) : Int) = 0 from rfl, if_true]
          exact ih 1 (by omega) (by omega)
        · obtain ⟨s, rfl⟩ : ∃ s, t = s + 1 := ⟨t - 1, by omega⟩
          simp only [if_neg (show ¬ ((s + 1 : Nat) : Int) = 0 by omega)]
          rw [u64_wrap_nat (by omega)]
          refine Ev.bind (MulMod (a := BL.getD (s + 1) 0) (b := BL.getD (s + 1) 0) (p := 65581) (by omega) (by omega) (by rw [bl65581]; decide) (by rw [bl65581]; decide)) ?_
          have hm := m16_lt (BL.getD (s + 1) 0) (BL.getD (s + 1) 0)
          have hmf : pmod (cl (BL.getD (s + 1) 0) (BL.getD (s + 1) 0)) 65581 = m16 (BL.getD (s + 1) 0) (BL.getD (s + 1) 0) := rfl
          have h1 : wrap64 (((s + 1 : Nat) : Int) - 1) = (s : Int) := by rw [wrap64_id (by omega) (by omega)]; omega
          have hr2 : rd gf16_basis.L (s : Int) = ((BL.getD s 0 : Nat) : Int) := by
            unfold rd
            rw [Int.toNat_natCast, basis_getD]
          have hand : Go.bits .and .u16 ((BL.getD (s + 1) 0 : Nat) : Int) 1 = 0 := by
            have := bits_and16 hb (show 1 < 65536 by decide)
            rw [wb_even (by omega)] at this
            exact this
          simp only [if_true, hmf, u16_id hm, bits_xor16 hm hb, wb_sy (show s < 15 by omega), hand, h1, hr2, if_neg (show ¬ (0 : Int) = 1 by decide), if_pos (show (0 : Int) ≤ (s : Int) by omega), wb_len, if_pos (show (s : Int) < ((16 : Nat) : Int) by omega)]
          exact ih (s + 2) (by omega) (by omega)
      refine Ev.step (fun k => cullettop_WholeBasis.l0.eq_2 _ _ _ _ _ _ _ k) ?_
      simp only [if_pos (show ((t : Nat) : Int) < 16 by omega), if_pos (show (0 : Int) ≤ ((t : Nat) : Int) by omega), wb_len, if_pos (show ((t : Nat) : Int) < ((16 : Nat) : Int) by omega), hr, hs, hbit]
      cases hbt : i.testBit t with
      | true =>
        simp only [if_true, bits_xor16 hbs hb]
        have : bsum BL i t ^^^ BL.getD t 0 = bsum BL i (t + 1) := by simp [bsum, hbt]
        rw [this]
        exact next
      | false =>
        simp only [Bool.false_eq_true, if_false, if_neg (show ¬ (0 : Int) = 1 by decide)]
        have : bsum BL i t = bsum BL i (t + 1) := by simp [bsum, hbt]
        rw [this]
        exact next
    · exact fin t hlt ht
theorem WholeBasis : cullettop_WholeBasis.Pure := by
  intro x y hx hy
  obtain ⟨i, rfl, hi⟩ := of_u16 hx
  obtain ⟨j, rfl, hj⟩ := of_u16 hy
  apply Ev.rounds
  unfold cullettop_WholeBasis.f
  have hxl : i ^^^ j < 65536 := Nat.xor_lt_two_pow (n := 16) hi hj
  have hi1 := index (wel_lt i)
  rw [wix_wel i hi] at hi1
  have hi2 := index (wel_lt (i ^^^ j))
  rw [wix_wel _ hxl, wel_xor] at hi2
  simp only [wrap64_id (n := (i : Int)) (by omega) (by omega), wrap64_id (n := (j : Int)) (by omega) (by omega), bits_xor16 hi hj, wrap64_id (n := ((i ^^^ j : Nat) : Int)) (by omega) (by omega), Element hi, Element hj, Element hxl, Option.bind_some, if_true, bits_xor16 (wel_lt i) (wel_lt j), wel_xor, hi1, hi2, bne_self_eq_false]
  refine Ev.step (fun k => cullettop_WholeBasis.j0.eq_2 _ _ _ k) ?_
  have h1 : rd gf16_basis.L 0 = 1 := rfl
  simp only [Bool.false_eq_true, if_false, gf16_Basis.f, Option.bind_some, wb_len, h1, show (((16 : Nat) : Int) = 16) from rfl, if_true, if_pos (show (0 : Int) < 16 by decide), bne_self_eq_false]
  refine Ev.step (fun k => cullettop_WholeBasis.j1.eq_2 _ _ _ _ k) ?_
  simp only [Bool.false_eq_true, if_false, wb_len]
  exact wb_l0 hi 16 0 (by omega) (by omega)
end Go.Proofs.Ytedaifgbnojojaa.Pure
