/-
RingCounts: for every n, with d from 1 to 10 by n: the degrees of all irreducible polynomials whose degree divides d have the sum 2^d (Gauss). No condition.
-/
import Derived.Test.YtilacemjflomfaaRingCnt0
import Derived.Test.YtilacemjflomfaaRingCnt1
import Derived.Test.YtilacemjflomfaaRingCnt2
import Derived.Test.YtilacemjflomfaaRingCnt3
import Derived.Test.YtilacemjflomfaaQx7
namespace Go.Proofs.Ytilacemjflomfaa.Pure
open Go.RowKit Go.Proofs.Ytilacemjflomfaa.Q Go.Proofs.YtilacemjflomfaaW.PrintWords Go.Proofs.YtilacemjflomfaaW.PrintLast Go.Proofs.YtilacemjflomfaaW.PrintMore Go.Proofs.Ytilacemjflomfaa.R GP
set_option linter.unusedVariables false
set_option linter.unusedSimpArgs false

theorem Rn_1 : R 2 2 = 2 := by
  exact R_of_tell 2 2 2 (by decide) (by decide) cnt_2
theorem Rn_2 : R 4 4 = 1 := by
  exact R_of_tell 4 4 1 (by decide) (by decide) cnt_4
theorem Rn_3 : R 8 8 = 2 := by
  exact R_of_tell 8 8 2 (by decide) (by decide) cnt_8
theorem Rn_4 : R 16 16 = 3 := by
  exact R_of_tell 16 16 3 (by decide) (by decide) cnt_16
theorem Rn_5 : R 32 32 = 6 := by
  exact R_of_tell 32 32 6 (by decide) (by decide) cnt_32
theorem Rn_6 : R 64 64 = 9 := by
  exact R_of_tell 64 64 9 (by decide) (by decide) cnt_64
theorem Rn_7 : R 128 128 = 18 := by
  rw [show R 128 128 = R 128 64 + R 192 64 from R_add 128 64 64, R_of_tell 64 128 9 (by decide) (by decide) cnt_128, R_of_tell 64 192 9 (by decide) (by decide) cnt_192]
theorem Rn_8 : R 256 256 = 30 := by
  rw [show R 256 256 = R 256 64 + R 320 192 from R_add 256 64 192, R_of_tell 64 256 6 (by decide) (by decide) cnt_256, show R 320 192 = R 320 64 + R 384 128 from R_add 320 64 128, R_of_tell 64 320 8 (by decide) (by decide) cnt_320, show R 384 128 = R 384 64 + R 448 64 from R_add 384 64 64, R_of_tell 64 384 8 (by decide) (by decide) cnt_384, R_of_tell 64 448 8 (by decide) (by decide) cnt_448]
theorem Rn_9 : R 512 512 = 56 := by
  rw [show R 512 512 = R 512 64 + R 576 448 from R_add 512 64 448, R_of_tell 64 512 7 (by decide) (by decide) cnt_512, show R 576 448 = R 576 64 + R 640 384 from R_add 576 64 384, R_of_tell 64 576 8 (by decide) (by decide) cnt_576, show R 640 384 = R 640 64 + R 704 320 from R_add 640 64 320, R_of_tell 64 640 8 (by decide) (by decide) cnt_640, show R 704 320 = R 704 64 + R 768 256 from R_add 704 64 256, R_of_tell 64 704 5 (by decide) (by decide) cnt_704, show R 768 256 = R 768 64 + R 832 192 from R_add 768 64 192, R_of_tell 64 768 7 (by decide) (by decide) cnt_768, show R 832 192 = R 832 64 + R 896 128 from R_add 832 64 128, R_of_tell 64 832 8 (by decide) (by decide) cnt_832, show R 896 128 = R 896 64 + R 960 64 from R_add 896 64 64, R_of_tell 64 896 5 (by decide) (by decide) cnt_896, R_of_tell 64 960 8 (by decide) (by decide) cnt_960]
theorem Rn_10 : R 1024 1024 = 99 := by
  rw [show R 1024 1024 = R 1024 64 + R 1088 960 from R_add 1024 64 960, R_of_tell 64 1024 7 (by decide) (by decide) cnt_1024, show R 1088 960 = R 1088 64 + R 1152 896 from R_add 1088 64 896, R_of_tell 64 1088 5 (by decide) (by decide) cnt_1088, show R 1152 896 = R 1152 64 + R 1216 832 from R_add 1152 64 832, R_of_tell 64 1152 5 (by decide) (by decide) cnt_1152, show R 1216 832 = R 1216 64 + R 1280 768 from R_add 1216 64 768, R_of_tell 64 1216 7 (by decide) (by decide) cnt_1216, show R 1280 768 = R 1280 64 + R 1344 704 from R_add 1280 64 704, R_of_tell 64 1280 7 (by decide) (by decide) cnt_1280, show R 1344 704 = R 1344 64 + R 1408 640 from R_add 1344 64 640, R_of_tell 64 1344 5 (by decide) (by decide) cnt_1344, show R 1408 640 = R 1408 64 + R 1472 576 from R_add 1408 64 576, R_of_tell 64 1408 7 (by decide) (by decide) cnt_1408, show R 1472 576 = R 1472 64 + R 1536 512 from R_add 1472 64 512, R_of_tell 64 1472 5 (by decide) (by decide) cnt_1472, show R 1536 512 = R 1536 64 + R 1600 448 from R_add 1536 64 448, R_of_tell 64 1536 6 (by decide) (by decide) cnt_1536, show R 1600 448 = R 1600 64 + R 1664 384 from R_add 1600 64 384, R_of_tell 64 1600 6 (by decide) (by decide) cnt_1600, show R 1664 384 = R 1664 64 + R 1728 320 from R_add 1664 64 320, R_of_tell 64 1664 6 (by decide) (by decide) cnt_1664, show R 1728 320 = R 1728 64 + R 1792 256 from R_add 1728 64 256, R_of_tell 64 1728 6 (by decide) (by decide) cnt_1728, show R 1792 256 = R 1792 64 + R 1856 192 from R_add 1792 64 192, R_of_tell 64 1792 8 (by decide) (by decide) cnt_1792, show R 1856 192 = R 1856 64 + R 1920 128 from R_add 1856 64 128, R_of_tell 64 1856 7 (by decide) (by decide) cnt_1856, show R 1920 128 = R 1920 64 + R 1984 64 from R_add 1920 64 64, R_of_tell 64 1920 6 (by decide) (by decide) cnt_1920, R_of_tell 64 1984 6 (by decide) (by decide) cnt_1984]
def Ne : Nat → Nat
  | 1 => 2
  | 2 => 1
  | 3 => 2
  | 4 => 3
  | 5 => 6
  | 6 => 9
  | 7 => 18
  | 8 => 30
  | 9 => 56
  | 10 => 99
  | _ => 0
theorem R_Ne : ∀ e, 1 ≤ e → e ≤ 10 → R (2 ^ e) (2 ^ e) = Ne e := by
  intro e h1 h2
  have : e = 1 ∨ e = 2 ∨ e = 3 ∨ e = 4 ∨ e = 5 ∨ e = 6 ∨ e = 7 ∨ e = 8 ∨ e = 9 ∨ e = 10 := by omega
  rcases this with rfl | rfl | rfl | rfl | rfl | rfl | rfl | rfl | rfl | rfl
  · exact Rn_1
  · exact Rn_2
  · exact Rn_3
  · exact Rn_4
  · exact Rn_5
  · exact Rn_6
  · exact Rn_7
  · exact Rn_8
  · exact Rn_9
  · exact Rn_10
theorem tmod_nat (a b : Nat) : Int.tmod (a : Int) (b : Int) = ((a % b : Nat) : Int) := by
  rw [Int.tmod_eq_emod_of_nonneg (by omega)]; exact (Int.natCast_emod a b).symm
/-- One polynomial of degree e. -/
theorem counts_step {d e p : Nat} {acc : Nat} {r : Bool} (hd : d ≤ 10) (he : 1 ≤ e) (hed : e ≤ d) (hp : bl p = e + 1) (hacc : acc < 2 ^ 40)
    (h : ∀ w : Nat, w = (if d % e = 0 then e * R p 1 else 0) → Ev (fun k => culletlaw01_RingCounts.l0 k d ((acc + w : Nat) : Int) ((p + 1 : Nat) : Int)) r) :
    Ev (fun k => culletlaw01_RingCounts.l0 k d acc p) r := by
  have hp64 : p < 2 ^ 64 := bl_le.1 (by omega)
  have hp11 : p < 2 ^ 11 := bl_le.1 (by omega)
  have hlo : 2 ≤ bl p := by omega
  refine Ev.step (fun k => culletlaw01_RingCounts.l0.eq_2 _ _ _ k) ?_
  refine Ev.bind (high hp64) ?_
  have ee : (bl p : Int) - 1 = (e : Nat) := by omega
  rw [ee]
  simp only [if_pos (show ((e : Nat) : Int) ≤ ((d : Nat) : Int) by omega)]
  refine Ev.bind (high hp64) ?_
  rw [ee, tmod_nat]
  simp only [if_neg (show ¬ ((e : Nat) : Int) = 0 by omega)]
  have hw1 : IntKind.u64.wrap (((p : Nat) : Int) + 1) = ((p + 1 : Nat) : Int) := by
    rw [show ((p : Nat) : Int) + 1 = ((p + 1 : Nat) : Int) by omega]; exact u64_wrap_nat (by omega)
  rw [hw1]
  by_cases hde : d % e = 0
  · simp only [if_pos (show ((d % e : Nat) : Int) = 0 by omega)]
    by_cases hr : Rabin p
    · refine Ev.bind (Irreducible_true hlo (by omega) hr) ?_
      simp only [if_true]
      refine Ev.bind (high hp64) ?_
      rw [ee, wrap64_id (by omega) (by omega), show ((acc : Nat) : Int) + ((e : Nat) : Int) = ((acc + e : Nat) : Int) by omega]
      exact h e (by rw [if_pos hde, R, R, if_pos hr]; omega)
    · refine Ev.bind (Irreducible_false hlo (by omega) hr) ?_
      simp only [Bool.false_eq_true, if_false, if_true]
      have := h 0 (by rw [if_pos hde, R, R, if_neg hr]; omega)
      rw [Nat.add_zero] at this
      exact this
  · simp only [if_neg (show ¬ ((d % e : Nat) : Int) = 0 by omega)]
    have := h 0 (by rw [if_neg hde])
    rw [Nat.add_zero] at this
    exact this
/-- All polynomials of degree e from p on. -/
theorem counts_block {d e : Nat} {r : Bool} (hd : d ≤ 10) (he : 1 ≤ e) (hed : e ≤ d) : ∀ (n p acc : Nat), 2 ^ e ≤ p → p + n = 2 ^ (e + 1) → acc + 20 * n ≤ 2 ^ 30 →
    Ev (fun k => culletlaw01_RingCounts.l0 k d ((acc + (if d % e = 0 then e * R p n else 0) : Nat) : Int) ((2 ^ (e + 1) : Nat) : Int)) r → Ev (fun k => culletlaw01_RingCounts.l0 k d acc p) r := by
  intro n
  induction n with
  | zero =>
    intro p acc h1 h2 _ h
    rw [R] at h
    rw [show (if d % e = 0 then e * 0 else 0) = 0 by split <;> rfl, Nat.add_zero, ← h2, Nat.add_zero] at h
    exact h
  | succ n ih =>
    intro p acc h1 h2 hacc h
    refine counts_step hd he hed (bl_eq h1 (by omega)) (by omega) ?_
    intro w hw
    have hR : R p 1 ≤ 1 := by rw [R, R]; split <;> omega
    have hw2 : w ≤ 10 := by
      rw [hw]; split
      · have := Nat.mul_le_mul (show e ≤ 10 by omega) hR; omega
      · omega
    refine ih (p + 1) (acc + w) (by omega) (by omega) (by omega) ?_
    have e1 : acc + w + (if d % e = 0 then e * R (p + 1) n else 0) = acc + (if d % e = 0 then e * R p (n + 1) else 0) := by
      rw [hw]
      have h3 := R_add p 1 n
      rw [Nat.add_comm 1 n] at h3
      split
      · rw [h3, Nat.mul_add]; omega
      · rfl
    rw [e1]
    exact h
def term (d e : Nat) : Nat := if d % e = 0 then e * Ne e else 0
def sumT (d e : Nat) : Nat → Nat
  | 0 => 0
  | m + 1 => term d e + sumT d (e + 1) m
theorem counts_all {d : Nat} (hd1 : 1 ≤ d) (hd : d ≤ 10) : ∀ (m e acc : Nat), e + m = d + 1 → 1 ≤ e → acc + sumT d e m = 2 ^ d → acc ≤ 2 ^ 12 → Ev (fun k => culletlaw01_RingCounts.l0 k d acc ((2 ^ e : Nat) : Int)) true := by
  intro m
  induction m with
  | zero =>
    intro e acc h1 he h2 _
    have e1 : e = d + 1 := by omega
    subst e1
    have hlt : (2 : Nat) ^ (d + 1) < 2 ^ 64 := Nat.pow_lt_pow_right (by decide) (by omega)
    have hbl : bl (2 ^ (d + 1)) = d + 1 + 1 := bl_eq (Nat.le_refl _) (Nat.pow_lt_pow_right (by decide) (by omega))
    refine Ev.step (fun k => culletlaw01_RingCounts.l0.eq_2 _ _ _ k) ?_
    refine Ev.bind (high hlt) ?_
    rw [hbl]
    simp only [if_neg (show ¬ ((d + 1 + 1 : Nat) : Int) - 1 ≤ ((d : Nat) : Int) by omega), if_pos (show (0 : Int) ≤ IntKind.u64.wrap ((d : Nat) : Int) by rw [u64_wrap_nat (show d < 2 ^ 64 by omega)]; omega)]
    have hsh : shl .i64 1 (IntKind.u64.wrap ((d : Nat) : Int)) = ((2 ^ d : Nat) : Int) := by
      rw [u64_wrap_nat (show d < 2 ^ 64 by omega)]
      unfold shl
      rw [Int.toNat_natCast, show IntKind.i64.bits = 64 from rfl, Nat.min_eq_left (by omega), IntKind.wrap_i64]
      have h2 : 2 ^ d ≤ 2 ^ 16 := Nat.pow_le_pow_right (by decide) (by omega)
      have h3 : ((2 : Int) ^ d) = ((2 ^ d : Nat) : Int) := by simp
      rw [h3]
      generalize (2 ^ d : Nat) = z at h2 ⊢
      omega
    rw [hsh]
    rw [sumT, Nat.add_zero] at h2
    rw [h2, beq_self_eq_true]
    exact Ev.now _
  | succ m ih =>
    intro e acc h1 he h2 h3
    have hp10 : 2 ^ e ≤ 2 ^ 10 := Nat.pow_le_pow_right (by decide) (by omega)
    have hd10 : 2 ^ d ≤ 2 ^ 10 := Nat.pow_le_pow_right (by decide) (by omega)
    refine counts_block hd he (by omega) (2 ^ e) (2 ^ e) acc (Nat.le_refl _) (by rw [Nat.pow_succ]; omega) (by omega) ?_
    rw [R_Ne e he (by omega)]
    rw [sumT, term] at h2
    exact ih (e + 1) _ (by omega) (by omega) (by omega) (by omega)
theorem sums : ∀ d, d < 11 → 1 ≤ d → sumT d 1 d = 2 ^ d := by decide
theorem counts_d {d : Nat} (h1 : 1 ≤ d) (h : d ≤ 10) : Ev (fun k => culletlaw01_RingCounts.j0 k ((d - 1 : Nat) : Int)) true := by
  refine Ev.step (fun k => culletlaw01_RingCounts.j0.eq_2 _ k) ?_
  rw [wrap64_id (by omega) (by omega), show (((d - 1 : Nat) : Int) + 1) = ((d : Nat) : Int) by omega]
  have := counts_all h1 h d 1 0 (by omega) (Nat.le_refl _) (by rw [sums d (by omega) h1, Nat.zero_add]) (by decide)
  exact this
theorem RingCounts : culletlaw01_RingCounts.Pure := by
  intro n _
  apply Ev.rounds
  unfold culletlaw01_RingCounts.f
  have hb : -10 < Int.tmod n 10 ∧ Int.tmod n 10 < 10 := by
    have h1 := Int.tmod_lt_of_pos n (b := 10) (by decide)
    have h2 := Int.lt_tmod_of_pos n (b := 10) (by decide)
    omega
  by_cases h : Int.tmod n 10 < 0
  · simp only [if_pos h]
    have := counts_d (d := (Int.tmod n 10 + 11).toNat) (by omega) (by omega)
    rw [wrap64_id (by omega) (by omega), show Int.tmod n 10 + 10 = (((Int.tmod n 10 + 11).toNat - 1 : Nat) : Int) by omega]
    exact this
  · simp only [if_neg h]
    have := counts_d (d := (Int.tmod n 10 + 1).toNat) (by omega) (by omega)
    rw [show Int.tmod n 10 = (((Int.tmod n 10 + 1).toNat - 1 : Nat) : Int) by omega]
    exact this
end Go.Proofs.Ytilacemjflomfaa.Pure
