/-
RingOrders: for every a and p: the power by Order's answer is 1, by it less any of its prime factors it is not; modulo an irreducible p of degree d it divides 2^d - 1; Primitive is Irreducible with an order of x that is 2^d - 1. No condition.
-/
import Derived.Test.YtilacemjflomfaaRingFns3
import Derived.Test.YtilacemjflomfaaQx13
namespace Go.Proofs.Ytilacemjflomfaa.Pure
open Go.RowKit Go.Proofs.Ytilacemjflomfaa.Q Go.Proofs.YtilacemjflomfaaW.PrintWords Go.Proofs.YtilacemjflomfaaW.PrintLast Go.Proofs.YtilacemjflomfaaW.PrintMore Go.Proofs.Ytilacemjflomfaa.R GP
set_option linter.unusedVariables false
set_option linter.unusedSimpArgs false
set_option linter.unusedSectionVars false

theorem ord_tmod (a b : Nat) : Int.tmod (a : Int) (b : Int) = ((a % b : Nat) : Int) := by
  rw [Int.tmod_eq_emod_of_nonneg (by omega)]; exact (Int.natCast_emod a b).symm
theorem ord_tdiv (a b : Nat) : Int.tdiv (a : Int) (b : Int) = ((a / b : Nat) : Int) := by
  rw [Int.tdiv_eq_ediv_of_nonneg (by omega)]; exact (Int.natCast_ediv a b).symm
theorem ord285 : Ev (fun k => ring_Order.f k 2 285) (255, 0) := Ev.of (fun k => ring_Order.mono 2 285 k) (k := 400) (by decide +kernel)
section
variable {a p N d : Nat} (ha : a < 2 ^ 64) (hd : bl p = d + 1) (h1 : 1 ≤ d) (h16 : d ≤ 16) (hg : pgcd a p = 1) (hN : IsOrd a p N) (hNlt : N < 65536)
include ha hd h1 h16 hg hN hNlt
theorem powd : 2 ^ d ≤ 65536 ∧ 2 ≤ 2 ^ d := by
  have h2 : 2 ^ d ≤ 2 ^ 16 := Nat.pow_le_pow_right (by decide) h16
  have h3 := Nat.pow_le_pow_right (n := 2) (by decide) h1
  omega
/-- The last part: what Primitive tells. -/
theorem ord_j5 (t : Bool) (ht : (t = true ∧ Rabin p) ∨ (t = false ∧ ¬ Rabin p)) : Ev (fun k => culletlaw01_RingOrders.j5 k p ((2 ^ d - 1 : Nat) : Int) t false) true := by
  have hp : 2 ≤ bl p := by omega
  have hp64 : p < 2 ^ 64 := bl_le.1 (by omega)
  have hpw := powd ha hd h1 h16 hg hN hNlt
  refine Ev.step (fun k => culletlaw01_RingOrders.j5.eq_2 _ _ _ _ k) ?_
  simp only [Bool.false_eq_true, if_false]
  have hO : ∃ n e : Int, Ev (fun k => ring_Order.f k 2 p) (n, e) ∧ (e = 0 ∨ n = 0) := by
    by_cases hg2 : pgcd 2 p = 1
    · obtain ⟨M, hM, hM2⟩ := isOrd_exists hd h1 hg2
      exact ⟨M, 0, Order (by decide) hp (by omega) hg2 hM (by omega), .inl rfl⟩
    · exact ⟨0, 12, Order_no (by decide) hp (by omega) hg2, .inr rfl⟩
  obtain ⟨n, e, hO, hne⟩ := hO
  refine Ev.bind hO ?_
  rcases ht with ⟨rfl, hr⟩ | ⟨rfl, hr⟩
  · refine Ev.bind (Primitive_irr hd h1 h16 hr n e hO) ?_
    simp only [if_true]
    have : (decide (e = 0 ∧ n = ((2 ^ d - 1 : Nat) : Int)) == (n == ((2 ^ d - 1 : Nat) : Int))) = true := by
      rw [beq_iff_eq, Bool.eq_iff_iff, decide_eq_true_iff, beq_iff_eq]
      constructor
      · exact fun k => k.2
      · intro k
        rcases hne with h | h
        · exact ⟨h, k⟩
        · omega
    rw [this]
    exact Ev.now _
  · refine Ev.bind (Primitive_red hp (by omega) hr) ?_
    simp only [Bool.false_eq_true, if_false, if_true]
    exact Ev.now _
/-- Behind the loop over the prime factors. -/
theorem ord_end {m q : Nat} (hq : m < q) : Ev (fun k => culletlaw01_RingOrders.l0 k a p N ((d : Nat) : Int) m q) true := by
  have hp : 2 ≤ bl p := by omega
  have hp0 : p ≠ 0 := bl_pos.1 (by omega)
  have hpw := powd ha hd h1 h16 hg hN hNlt
  refine Ev.step (fun k => culletlaw01_RingOrders.l0.eq_2 _ _ _ _ _ _ k) ?_
  have hw : IntKind.u64.wrap ((d : Nat) : Int) = (d : Nat) := u64_wrap_nat (show d < 2 ^ 64 by omega)
  rw [hw]
  simp only [if_neg (show ¬ ((q : Nat) : Int) ≤ ((m : Nat) : Int) by omega), if_pos (show (0 : Int) ≤ ((d : Nat) : Int) by omega)]
  have hsh : shl .i64 1 ((d : Nat) : Int) = ((2 ^ d : Nat) : Int) := by
    unfold shl
    rw [Int.toNat_natCast, show IntKind.i64.bits = 64 from rfl, Nat.min_eq_left (by omega), IntKind.wrap_i64]
    have h3 : ((2 : Int) ^ d) = ((2 ^ d : Nat) : Int) := by simp
    rw [h3]
    have := hpw.1
    generalize (2 ^ d : Nat) = z at this ⊢
    omega
  rw [hsh, wrap64_id (by omega) (by omega), show ((2 ^ d : Nat) : Int) - 1 = ((2 ^ d - 1 : Nat) : Int) by omega]
  by_cases hr : Rabin p
  · refine Ev.bind (Irreducible_true hp (by omega) hr) ?_
    simp only [if_true, if_neg (show ¬ ((N : Nat) : Int) = 0 by have := hN.1; omega)]
    have hi := rabin_irr hp hr
    have hnd : ¬ Dv p a := by
      intro k
      have := dv_pgcd k (Dv.refl p)
      rw [hg] at this
      have := this.bl_le (by decide)
      rw [bl_one] at this
      omega
    have hdv := hN.dvd hp (fermat hi hd hnd)
    rw [ord_tmod, Nat.mod_eq_zero_of_dvd hdv]
    simp only [show (((0 : Nat) : Int) != 0) = false from rfl]
    exact ord_j5 ha hd h1 h16 hg hN hNlt true (.inl ⟨rfl, hr⟩)
  · refine Ev.bind (Irreducible_false hp (by omega) hr) ?_
    simp only [Bool.false_eq_true, if_false]
    exact ord_j5 ha hd h1 h16 hg hN hNlt false (.inr ⟨rfl, hr⟩)
/-- The inner loop: q is taken out of m. -/
theorem ord_l1 {q : Nat} (hq : 2 ≤ q) (hqN : q ∣ N) (hqlt : q < 2 ^ 40) : ∀ (n m : Nat), m ≤ n → 1 ≤ m → m ≤ 65536 → (∀ m' : Nat, 1 ≤ m' → m' ≤ m → m' ∣ m → Ev (fun k => culletlaw01_RingOrders.l0 k a p N ((d : Nat) : Int) m' ((q + 1 : Nat) : Int)) true) →
    Ev (fun k => culletlaw01_RingOrders.l1 k a p N ((d : Nat) : Int) m q) true := by
  have hp : 2 ≤ bl p := by omega
  intro n
  induction n with
  | zero => intro m h h1; omega
  | succ n ih =>
    intro m h hm1 hm2 hnext
    refine Ev.step (fun k => culletlaw01_RingOrders.l1.eq_2 _ _ _ _ _ _ k) ?_
    rw [ord_tmod, ord_tdiv, ord_tdiv]
    simp only [if_neg (show ¬ ((q : Nat) : Int) = 0 by omega)]
    by_cases hd0 : m % q = 0
    · simp only [if_pos (show ((m % q : Nat) : Int) = 0 by omega)]
      have hdm : m / q < m := Nat.div_lt_self (by omega) (by omega)
      have hle : 1 ≤ m / q := by
        have := Nat.div_add_mod m q
        by_cases hz : m / q = 0
        · rw [hz, Nat.mul_zero] at this; omega
        · exact Nat.pos_of_ne_zero hz
      have hdv : m / q ∣ m := ⟨q, by have := Nat.div_add_mod m q; rw [hd0, Nat.add_zero, Nat.mul_comm] at this; exact this.symm⟩
      obtain ⟨c, hc⟩ : ∃ c, m / q = c := ⟨_, rfl⟩
      rw [hc] at hdm hle hdv ⊢
      rw [wrap64_id (by omega) (by omega)]
      exact ih c (by omega) hle (by omega) (fun m' a1 a2 a3 => hnext m' a1 (by omega) (Nat.dvd_trans a3 hdv))
    · simp only [if_neg (show ¬ ((m % q : Nat) : Int) = 0 by omega)]
      have hNq : N / q < N := Nat.div_lt_self hN.1 (by omega)
      have hNq1 : 1 ≤ N / q := by
        obtain ⟨c, hc⟩ := hqN
        have hN1 := hN.1
        have : N / q = c := by rw [hc]; exact Nat.mul_div_cancel_left c (by omega)
        rw [this]
        by_cases hz : c = 0
        · rw [hz, Nat.mul_zero] at hc; omega
        · omega
      rw [wrap64_id (n := ((N / q : Nat) : Int)) (by omega) (by omega), u64_wrap_nat (show N / q < 2 ^ 64 by omega)]
      refine Ev.bind (PowMod ha (show N / q < 2 ^ 64 by omega) hp (by omega)) ?_
      have hne := hN.2.2 (N / q) hNq1 hNq
      simp only [if_neg (show ¬ ((pmod (pp a (N / q)) p : Nat) : Int) = 1 by omega)]
      rw [wrap64_id (by omega) (by omega)]
      exact hnext m hm1 (Nat.le_refl _) (Nat.dvd_refl m)
theorem ord_l0 : ∀ (n m q : Nat), m + 1 - q ≤ n → 2 ≤ q → q < 2 ^ 30 → 1 ≤ m → m ≤ 65536 → m ∣ N → Ev (fun k => culletlaw01_RingOrders.l0 k a p N ((d : Nat) : Int) m q) true := by
  intro n
  induction n with
  | zero => intro m q h _ _ _ _ _; exact ord_end ha hd h1 h16 hg hN hNlt (by omega)
  | succ n ih =>
    intro m q h hq hq30 hm1 hm2 hmN
    by_cases hlt : m < q
    · exact ord_end ha hd h1 h16 hg hN hNlt hlt
    · refine Ev.step (fun k => culletlaw01_RingOrders.l0.eq_2 _ _ _ _ _ _ k) ?_
      rw [ord_tmod]
      simp only [if_pos (show ((q : Nat) : Int) ≤ ((m : Nat) : Int) by omega), if_neg (show ¬ ((q : Nat) : Int) = 0 by omega)]
      by_cases hd0 : m % q = 0
      · simp only [if_pos (show ((m % q : Nat) : Int) = 0 by omega)]
        exact ord_l1 ha hd h1 h16 hg hN hNlt hq (Nat.dvd_trans (Nat.dvd_of_mod_eq_zero hd0) hmN) (by omega) m m (Nat.le_refl _) hm1 hm2
          (fun m' a1 a2 a3 => ih m' (q + 1) (by omega) (by omega) (by omega) a1 (by omega) (Nat.dvd_trans a3 hmN))
      · simp only [if_neg (show ¬ ((m % q : Nat) : Int) = 0 by omega)]
        rw [wrap64_id (by omega) (by omega)]
        exact ih m (q + 1) (by omega) (by omega) (by omega) hm1 hm2 hmN
end
theorem RingOrders : culletlaw01_RingOrders.Pure := by
  intro x y hx hy
  obtain ⟨a, rfl, ha⟩ := of_u64 hx
  obtain ⟨p, rfl, hp⟩ := of_u64 hy
  apply Ev.rounds
  unfold culletlaw01_RingOrders.f
  refine Ev.bind ord285 ?_
  simp only [if_true, bne_self_eq_false]
  refine Ev.step (fun k => culletlaw01_RingOrders.j0.eq_2 _ _ _ k) ?_
  simp only [Bool.false_eq_true, if_false]
  refine Ev.bind (high hp) ?_
  have none : ¬ (2 ≤ bl p ∧ bl p ≤ 17) → ∀ v : Int, Ev (fun k => culletlaw01_RingOrders.j1 k a p v true) true := by
    intro hm v
    refine Ev.step (fun k => culletlaw01_RingOrders.j1.eq_2 _ _ _ _ k) ?_
    simp only [if_true]
    refine Ev.bind (Order_none hp hm) ?_
    refine Ev.bind (Primitive_none hp hm) ?_
    simp only [if_true, Bool.false_eq_true, if_false, beq_self_eq_true]
    exact Ev.now _
  by_cases hlo : bl p < 2
  · simp only [if_pos (show (bl p : Int) - 1 < 1 by omega)]
    exact none (by omega) _
  · simp only [if_neg (show ¬ (bl p : Int) - 1 < 1 by omega)]
    by_cases hhi : 17 < bl p
    · simp only [decide_eq_true (show (bl p : Int) - 1 > 16 by omega)]
      exact none (by omega) _
    · simp only [decide_eq_false (show ¬ (bl p : Int) - 1 > 16 by omega)]
      obtain ⟨d, hd⟩ : ∃ d, bl p = d + 1 := ⟨bl p - 1, by omega⟩
      rw [show (bl p : Int) - 1 = (d : Nat) by omega]
      refine Ev.step (fun k => culletlaw01_RingOrders.j1.eq_2 _ _ _ _ k) ?_
      simp only [Bool.false_eq_true, if_false]
      by_cases hg : pgcd a p = 1
      · obtain ⟨N, hN, hN2⟩ := isOrd_exists hd (by omega) hg
        have h2 : 2 ^ d ≤ 2 ^ 16 := Nat.pow_le_pow_right (by decide) (by omega)
        have hNlt : N < 65536 := by omega
        have hN1 := hN.1
        refine Ev.bind (Order ha (by omega) (by omega) hg hN (by omega)) ?_
        refine Ev.bind (gcd ha hp) ?_
        rw [hg]
        simp only [show (((1 : Nat) : Int) = 1) from rfl, if_true, if_neg (show ¬ ((N : Nat) : Int) < 1 by omega), decide_eq_false (show ¬ ((N : Nat) : Int) ≥ 65536 by omega)]
        refine Ev.step (fun k => culletlaw01_RingOrders.j2.eq_2 _ _ _ _ _ k) ?_
        simp only [Bool.false_eq_true, if_false]
        rw [u64_wrap_nat (show N < 2 ^ 64 by omega)]
        refine Ev.bind (PowMod ha (show N < 2 ^ 64 by omega) (by omega) (by omega)) ?_
        rw [hN.2.1]
        simp only [show (((1 : Nat) : Int) = 1) from rfl, if_true]
        exact ord_l0 ha hd (by omega) (by omega) hg hN hNlt _ N 2 (Nat.le_refl _) (by omega) (by omega) hN1 (by omega) (Nat.dvd_refl N)
      · refine Ev.bind (Order_no ha (by omega) (by omega) hg) ?_
        refine Ev.bind (gcd ha hp) ?_
        simp only [if_neg (show ¬ ((pgcd a p : Nat) : Int) = 1 by omega), if_true, beq_self_eq_true]
        exact Ev.now _
end Go.Proofs.Ytilacemjflomfaa.Pure
