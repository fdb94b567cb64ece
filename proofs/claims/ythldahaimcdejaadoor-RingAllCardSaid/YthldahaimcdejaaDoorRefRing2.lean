/- What the document's functions of the ring compute, second part: rest, Gcd, times, PowMod. -/
import Derived.Test.YthldahaimcdejaaDoorRefRing
import Derived.Test.YthldahaimcdejaaDoorRingFns3
import Derived.Test.YthldahaimcdejaaDoorZ4
import Derived.Test.YthldahaimcdejaaDoorZ2
import Derived.Test.YthldahaimcdejaaDoorZ3

namespace Go.Proofs.YthldahaimcdejaaDoor.R
open Go.RowKit Go.Proofs.YthldahaimcdejaaDoorW.PrintWords Go.Proofs.YthldahaimcdejaaDoorW.PrintLast Go.Proofs.YthldahaimcdejaaDoorW.PrintMore Go.Proofs.YthldahaimcdejaaDoor.A GP
set_option linter.unusedVariables false
set_option linter.unusedSimpArgs false
theorem rrest_l0 {b d : Nat} (hd : bl b = d + 1) (hb : b < 2 ^ 64) : ∀ (m a : Nat), bl a ≤ m + d → m + d ≤ 64 →
    Ev (fun k => culletref01_rest.l0 k a b d ((m : Int) + d - 1)) (pmod a b : Nat) := by
  have hb0 : b ≠ 0 := bl_pos.1 (by omega)
  have hb64 := bl_le.2 hb
  intro m
  induction m with
  | zero =>
    intro a h _
    refine Ev.step (fun k => culletref01_rest.l0.eq_2 _ _ _ _ k) ?_
    simp only [if_neg (show ¬ (((0 : Nat) : Int) + d - 1 ≥ d) by omega)]
    rw [pmod_small (by omega)]
    exact Ev.now _
  | succ m ih =>
    intro a h hm
    refine Ev.step (fun k => culletref01_rest.l0.eq_2 _ _ _ _ k) ?_
    have ha64 : a < 2 ^ 64 := bl_le.1 (by omega)
    have e : (((m + 1 : Nat) : Int) + d - 1) = ((m + d : Nat) : Int) := by omega
    rw [e]
    simp only [if_pos (show ((m + d : Nat) : Int) ≥ d by omega), u64_wrap_nat (show m + d < 2 ^ 64 by omega), if_pos (show (0 : Int) ≤ ((m + d : Nat) : Int) by omega)]
    rw [bit64 ha64 (by omega), wrap64_id (n := ((m + d : Nat) : Int) - (d : Int)) (by omega) (by omega), show ((m + d : Nat) : Int) - (d : Int) = ((m : Nat) : Int) by omega, u64_wrap_nat (show m < 2 ^ 64 by omega), wrap64_id (n := ((m + d : Nat) : Int) - 1) (by omega) (by omega), show ((m + d : Nat) : Int) - 1 = (m : Int) + d - 1 by omega]
    simp only [if_pos (show (0 : Int) ≤ ((m : Nat) : Int) by omega)]
    by_cases hbit : a.testBit (m + d) = true
    · have h1 := bl_of_bit hbit
      have hbl : bl a = m + d + 1 := by omega
      have h2 : bl (b * 2 ^ m) = m + d + 1 := by rw [bl_shift hb0]; omega
      have h3 : b * 2 ^ m < 2 ^ 64 := bl_le.1 (by omega)
      have h4 := bl_xor_lt (hbl.trans h2.symm) (by intro e; subst e; simp at hbit)
      simp only [hbit, if_true]
      rw [shl64 (by omega) h3, bits_xor64 ha64 h3]
      have := ih (a ^^^ b * 2 ^ m) (by omega) (by omega)
      rw [show pmod (a ^^^ b * 2 ^ m) b = pmod a b from (pmod_eq_iff hb0).2 ⟨2 ^ m, by rw [pow_cl, Nat.xor_comm a, Nat.xor_assoc, Nat.xor_self, Nat.xor_zero]⟩] at this
      exact this
    · simp only [hbit, if_false, Bool.false_eq_true, if_neg (show ¬ ((0 : Int) = 1) by omega)]
      refine ih a ?_ (by omega)
      by_cases hbl : bl a = m + d + 1
      · exact absurd (top_bit hbl) hbit
      · omega
theorem rrest {a b : Nat} (hb0 : b ≠ 0) (ha : a < 2 ^ 64) (hb : b < 2 ^ 64) : Ev (fun k => culletref01_rest.f k a b) (pmod a b : Nat) := by
  unfold culletref01_rest.f
  refine Ev.bind (rdeg hb) ?_
  refine Ev.bind (rdeg ha) ?_
  obtain ⟨d, hd⟩ : ∃ d, bl b = d + 1 := ⟨bl b - 1, by have := bl_pos.2 hb0; omega⟩
  have hb64 := bl_le.2 hb
  have ha64 := bl_le.2 ha
  rw [hd, show ((d + 1 : Nat) : Int) - 1 = (d : Int) by omega]
  by_cases h : d ≤ bl a
  · have := rrest_l0 hd hb (bl a - d) a (by omega) (by omega)
    rw [show ((bl a - d : Nat) : Int) + d - 1 = (bl a : Int) - 1 by omega] at this
    exact this
  · refine Ev.step (fun k => culletref01_rest.l0.eq_2 _ _ _ _ k) ?_
    simp only [if_neg (show ¬ ((bl a : Int) - 1 ≥ d) by omega)]
    rw [pmod_small (by omega)]
    exact Ev.now _
theorem tm2 (b : Nat) : Int.tmod (b : Int) 2 = ((b % 2 : Nat) : Int) := by rw [Int.tmod_eq_emod_of_nonneg (by omega)]; omega
theorem td2 (b : Nat) : Int.tdiv (b : Int) 2 = ((b / 2 : Nat) : Int) := by rw [Int.tdiv_eq_ediv_of_nonneg (by omega)]; omega
theorem xor_odd {a b : Nat} (ha : a % 2 = 1) (hb : b % 2 = 1) : (a ^^^ b) % 2 = 0 := by
  have h := Nat.testBit_xor (x := a) (y := b) (i := 0)
  simp only [Nat.testBit_zero] at h
  rw [decide_eq_true ha, decide_eq_true hb] at h
  have : ¬ (a ^^^ b) % 2 = 1 := of_decide_eq_false h
  omega
theorem rgcd_main {t : Nat} : ∀ n a b : Nat, 2 * (bl a + bl b) ≤ n → (a % 2 = 1 → b % 2 = 1 → 2 * (bl a + bl b) + 1 ≤ n) → (a % 2 = 1 ∨ b % 2 = 1) → b ≠ 0 → a < 2 ^ 64 → bl b + t ≤ 64 →
    Ev (fun k => culletref01_Gcd.l1 k a b t) ((pgcd a b * 2 ^ t : Nat) : Int) ∧ (a ≠ 0 → Ev (fun k => culletref01_Gcd.l2 k a b t) ((pgcd a b * 2 ^ t : Nat) : Int)) ∧
      (a % 2 = 1 → Ev (fun k => culletref01_Gcd.l3 k a b t) ((pgcd a b * 2 ^ t : Nat) : Int)) := by
  intro n
  induction n with
  | zero =>
    intro a b h _ _ hb
    have := bl_pos.2 hb
    omega
  | succ n ih =>
    intro a b h ho hodd hb ha64 hbt
    have hb64 : b < 2 ^ 64 := bl_le.1 (by omega)
    have hbp := bl_pos.2 hb
    have h3 : a % 2 = 1 → Ev (fun k => culletref01_Gcd.l3 k a b t) ((pgcd a b * 2 ^ t : Nat) : Int) := by
      intro ha1
      have ha0 : a ≠ 0 := by intro e; subst e; simp at ha1
      refine Ev.step (fun k => culletref01_Gcd.l3.eq_2 _ _ _ k) ?_
      rw [tm2, td2]
      by_cases hb1 : b % 2 = 1
      · simp only [if_neg (show ¬ (((b % 2 : Nat) : Int) = 0) by omega)]
        refine Ev.bind (rdeg ha64) ?_
        refine Ev.bind (rdeg hb64) ?_
        have ho' := ho ha1 hb1
        by_cases hge : bl b ≤ bl a
        · simp only [if_pos (show (bl a : Int) - 1 ≥ (bl b : Int) - 1 by omega)]
          rw [bits_xor64 ha64 hb64, ← pgcd_add_left]
          have he := xor_odd ha1 hb1
          have hx : bl (a ^^^ b) ≤ bl a := bl_xor_le (Nat.le_refl _) hge
          exact (ih (a ^^^ b) b (by omega) (by omega) (by omega) hb (Nat.xor_lt_two_pow ha64 hb64) hbt).1
        · simp only [if_neg (show ¬ (bl a : Int) - 1 ≥ (bl b : Int) - 1 by omega)]
          rw [bits_xor64 hb64 ha64, ← pgcd_add_right]
          have he := xor_odd hb1 ha1
          have hx : bl (b ^^^ a) = bl b := bl_xor_of_lt (by omega)
          exact (ih a (b ^^^ a) (by omega) (by omega) (.inl ha1) (bl_pos.1 (by omega)) ha64 (by omega)).1
      · simp only [if_pos (show (((b % 2 : Nat) : Int) = 0) by omega)]
        have hbh := bl_half b
        rw [u64_wrap_nat (by omega)]
        have := (ih a (b / 2) (by omega) (by omega) (.inl ha1) (by omega) ha64 (by omega)).2.2 ha1
        rw [← pgcd_half_right ha1, show 2 * (b / 2) = b by omega] at this
        exact this
    have h2 : a ≠ 0 → Ev (fun k => culletref01_Gcd.l2 k a b t) ((pgcd a b * 2 ^ t : Nat) : Int) := by
      intro ha0
      have hap := bl_pos.2 ha0
      refine Ev.step (fun k => culletref01_Gcd.l2.eq_2 _ _ _ k) ?_
      rw [tm2, td2]
      by_cases ha1 : a % 2 = 1
      · simp only [if_neg (show ¬ (((a % 2 : Nat) : Int) = 0) by omega)]
        exact h3 ha1
      · simp only [if_pos (show (((a % 2 : Nat) : Int) = 0) by omega)]
        have hah := bl_half a
        have hb1 : b % 2 = 1 := by omega
        rw [u64_wrap_nat (by omega)]
        have := (ih (a / 2) b (by omega) (by omega) (.inr hb1) hb (by omega) hbt).2.1 (by omega)
        rw [← pgcd_half_left hb1, show 2 * (a / 2) = a by omega] at this
        exact this
    refine ⟨?_, h2, h3⟩
    refine Ev.step (fun k => culletref01_Gcd.l1.eq_2 _ _ _ k) ?_
    by_cases ha0 : a = 0
    · subst ha0
      simp only [if_pos (show (((0 : Nat) : Int) = 0) by omega), u64_wrap_nat (show t < 2 ^ 64 by omega), if_pos (show (0 : Int) ≤ ((t : Nat) : Int) by omega)]
      rw [pgcd_zero_left, shl64 (by omega) (bl_le.1 (by rw [bl_shift hb]; omega))]
      exact Ev.now _
    · simp only [if_neg (show ¬ (((a : Nat) : Int) = 0) by omega)]
      exact h2 ha0
theorem rgcd_l0 : ∀ n a b t : Nat, bl a ≤ n → a ≠ 0 → b ≠ 0 → bl a + t ≤ 64 → bl b + t ≤ 64 → Ev (fun k => culletref01_Gcd.l0 k a b t) ((pgcd a b * 2 ^ t : Nat) : Int) := by
  intro n
  induction n with
  | zero => intro a b t h ha; have := bl_pos.2 ha; omega
  | succ n ih =>
    intro a b t h ha hb hat hbt
    have ha64 : a < 2 ^ 64 := bl_le.1 (by omega)
    have hb64 : b < 2 ^ 64 := bl_le.1 (by omega)
    have hap := bl_pos.2 ha
    have hbp := bl_pos.2 hb
    have hj : a % 2 = 1 ∨ b % 2 = 1 → Ev (fun k => culletref01_Gcd.j1 k a b t) ((pgcd a b * 2 ^ t : Nat) : Int) := fun ho =>
      Ev.step (fun k => culletref01_Gcd.j1.eq_2 _ _ _ k) (rgcd_main _ a b (by exact Nat.le_succ _) (fun _ _ => Nat.le_refl _) ho hb ha64 hbt).1
    refine Ev.step (fun k => culletref01_Gcd.l0.eq_2 _ _ _ k) ?_
    rw [tm2, td2, tm2, td2]
    by_cases ha1 : a % 2 = 1
    · simp only [if_neg (show ¬ (((a % 2 : Nat) : Int) = 0) by omega)]
      exact hj (.inl ha1)
    · simp only [if_pos (show (((a % 2 : Nat) : Int) = 0) by omega)]
      by_cases hb1 : b % 2 = 1
      · simp only [if_neg (show ¬ (((b % 2 : Nat) : Int) = 0) by omega)]
        exact hj (.inr hb1)
      · simp only [if_pos (show (((b % 2 : Nat) : Int) = 0) by omega)]
        have hah := bl_half a
        have hbh := bl_half b
        rw [u64_wrap_nat (by omega), u64_wrap_nat (by omega), wrap64_id (by omega) (by omega), show (t : Int) + 1 = ((t + 1 : Nat) : Int) by omega]
        have := ih (a / 2) (b / 2) (t + 1) (by omega) (by omega) (by omega) (by omega) (by omega)
        have e : pgcd a b = 2 * pgcd (a / 2) (b / 2) := by rw [← pgcd_two, show 2 * (a / 2) = a by omega, show 2 * (b / 2) = b by omega]
        rw [e, show 2 * pgcd (a / 2) (b / 2) * 2 ^ t = pgcd (a / 2) (b / 2) * 2 ^ (t + 1) by rw [Nat.pow_succ, Nat.mul_comm 2, Nat.mul_assoc, Nat.mul_comm 2]]
        exact this
theorem rgcd {a b : Nat} (ha : a < 2 ^ 64) (hb : b < 2 ^ 64) : Ev (fun k => culletref01_Gcd.f k a b) (pgcd a b : Nat) := by
  unfold culletref01_Gcd.f
  by_cases h0 : a = 0
  · subst h0
    simp only [if_pos (show (((0 : Nat) : Int) = 0) by omega)]
    rw [pgcd_zero_left]; exact Ev.now _
  · simp only [if_neg (show ¬ (((a : Nat) : Int) = 0) by omega)]
    by_cases h1 : b = 0
    · subst h1
      simp only [if_pos (show (((0 : Nat) : Int) = 0) by omega)]
      rw [pgcd_zero]; exact Ev.now _
    · simp only [if_neg (show ¬ (((b : Nat) : Int) = 0) by omega)]
      have := rgcd_l0 _ a b 0 (Nat.le_refl _) h0 h1 (by have := bl_le.2 ha; omega) (by have := bl_le.2 hb; omega)
      rw [Nat.pow_zero, Nat.mul_one] at this
      exact this
theorem pmod_double {p : Nat} (hp : p ≠ 0) (c : Nat) : pmod (2 * c) p = pmod (2 * pmod c p) p := by rw [← two_is, ← two_is, pmod_cl_right hp]
theorem horner {a b p : Nat} (hp : p ≠ 0) (j : Nat) : pmod (cl (a / 2 ^ j) b) p = pmod (2 * pmod (cl (a / 2 ^ (j + 1)) b) p) p ^^^ (if a.testBit j then pmod b p else 0) := by
  rw [cl_comm (a / 2 ^ j), cl_half b a j, pmod_xor hp, pmod_double hp, cl_comm b (a / 2 ^ (j + 1)), Nat.xor_comm]
  congr 1
  split
  · rfl
  · exact pmod_zero_left p
theorem rtimes_l0 {a b p : Nat} (ha : a < 2 ^ 64) (hp : 2 ≤ bl p) (hp2 : bl p ≤ 33) : ∀ j : Nat, j ≤ 64 → Ev (fun k => culletref01_times.l0 k a (pmod b p : Nat) p (pmod (cl (a / 2 ^ j) b) p : Nat) ((j : Int) - 1)) (pmod (cl a b) p : Nat) := by
  have hp0 : p ≠ 0 := bl_pos.1 (by omega)
  have hp64 : p < 2 ^ 64 := bl_le.1 (by omega)
  intro j
  induction j with
  | zero =>
    intro _
    refine Ev.step (fun k => culletref01_times.l0.eq_2 _ _ _ _ _ k) ?_
    simp only [if_neg (show ¬ (((0 : Nat) : Int) - 1 ≥ 0) by omega)]
    rw [Nat.pow_zero, Nat.div_one]
    exact Ev.now _
  | succ j ih =>
    intro hj
    refine Ev.step (fun k => culletref01_times.l0.eq_2 _ _ _ _ _ k) ?_
    rw [show ((j + 1 : Nat) : Int) - 1 = (j : Nat) by omega]
    have hh := horner (a := a) (b := b) hp0 j
    have hr := pmod_lt hp0 (cl (a / 2 ^ (j + 1)) b)
    generalize pmod (cl (a / 2 ^ (j + 1)) b) p = r at hr hh ⊢
    have hr2 : r < 2 ^ 32 := bl_le.1 (by omega)
    have hq := pmod_lt hp0 (2 * r)
    have hq2 : pmod (2 * r) p < 2 ^ 64 := bl_le.1 (by omega)
    have hb2 : pmod b p < 2 ^ 64 := pmod_lt64 hp0 hp64
    simp only [if_pos (show ((j : Nat) : Int) ≥ 0 by omega)]
    rw [show (2 : Int) * (r : Nat) = ((2 * r : Nat) : Int) by omega, u64_wrap_nat (by omega)]
    refine Ev.bind (rrest hp0 (by omega) hp64) ?_
    rw [u64_wrap_nat (show j < 2 ^ 64 by omega), wrap64_id (by omega) (by omega), bit64 ha (by omega)]
    simp only [if_pos (show (0 : Int) ≤ ((j : Nat) : Int) by omega)]
    have := ih (by omega)
    rw [hh] at this
    by_cases hbit : a.testBit j = true
    · simp only [hbit, if_true] at this ⊢
      rw [bits_xor64 hq2 hb2]
      exact this
    · simp only [hbit, Bool.false_eq_true, if_false, if_neg (show ¬ ((0 : Int) = 1) by omega), Nat.xor_zero] at this ⊢
      exact this
theorem rtimes {a b p : Nat} (ha : a < 2 ^ 64) (hb : b < 2 ^ 64) (hp : 2 ≤ bl p) (hp2 : bl p ≤ 33) : Ev (fun k => culletref01_times.f k a b p) (pmod (cl a b) p : Nat) := by
  have hp0 : p ≠ 0 := bl_pos.1 (by omega)
  have hp64 : p < 2 ^ 64 := bl_le.1 (by omega)
  unfold culletref01_times.f
  refine Ev.bind (rrest hp0 hb hp64) ?_
  refine Ev.bind (rdeg ha) ?_
  have := rtimes_l0 (b := b) ha hp hp2 (bl a) (bl_le.2 ha)
  rw [Nat.div_eq_of_lt (bl_le.1 (Nat.le_refl _)), zero_cl, pmod_zero_left] at this
  exact this
theorem rmodulus {p : Nat} (hp : p < 2 ^ 64) (m : Nat) : Ev (fun k => culletref01_modulus.f k p m) (decide (2 ≤ bl p ∧ bl p ≤ m + 1)) := by
  unfold culletref01_modulus.f
  refine Ev.bind (rdeg hp) ?_
  by_cases h : 2 ≤ bl p
  · simp only [if_pos (show (bl p : Int) - 1 ≥ 1 by omega)]
    have e : decide ((bl p : Int) - 1 ≤ m) = decide (2 ≤ bl p ∧ bl p ≤ m + 1) := by
      rw [Bool.eq_iff_iff, decide_eq_true_iff, decide_eq_true_iff]; omega
    rw [e]; exact Ev.now _
  · simp only [if_neg (show ¬ (bl p : Int) - 1 ≥ 1 by omega)]
    rw [decide_eq_false (fun k => h k.1)]; exact Ev.now _
theorem rmod_yes {p m : Nat} (hp : p < 2 ^ 64) (h : 2 ≤ bl p ∧ bl p ≤ m + 1) : Ev (fun k => culletref01_modulus.f k p m) true := by have := rmodulus hp m; rwa [decide_eq_true h] at this
theorem rmod_no {p m : Nat} (hp : p < 2 ^ 64) (h : ¬ (2 ≤ bl p ∧ bl p ≤ m + 1)) : Ev (fun k => culletref01_modulus.f k p m) false := by have := rmodulus hp m; rwa [decide_eq_false h] at this
theorem rMulMod {a b p : Nat} (ha : a < 2 ^ 64) (hb : b < 2 ^ 64) (hp : 2 ≤ bl p) (hp2 : bl p ≤ 33) : Ev (fun k => culletref01_MulMod.f k a b p) ((pmod (cl a b) p : Nat), (0 : Int)) := by
  unfold culletref01_MulMod.f
  refine Ev.bind (rmod_yes (m := 32) (bl_le.1 (by omega)) ⟨hp, by omega⟩) ?_
  simp only [if_true]
  exact Ev.bind (rtimes ha hb hp hp2) (Ev.now _)
theorem rMulMod_no {p : Nat} (a b : Int) (hp : p < 2 ^ 64) (h : ¬ (2 ≤ bl p ∧ bl p ≤ 33)) : Ev (fun k => culletref01_MulMod.f k a b p) ((0 : Int), (11 : Int)) := by
  unfold culletref01_MulMod.f
  refine Ev.bind (rmod_no (m := 32) hp h) ?_
  exact Ev.now _
theorem pp_bit (a n j : Nat) : pp a (n / 2 ^ j) = cl (cl (pp a (n / 2 ^ (j + 1))) (pp a (n / 2 ^ (j + 1)))) (if n.testBit j then a else 1) := by
  have e : n / 2 ^ j = (n / 2 ^ (j + 1)) * 2 + (if n.testBit j then 1 else 0) := by
    rw [Nat.pow_succ, ← Nat.div_div_eq_div_mul, Nat.testBit_eq_decide_div_mod_eq]
    rcases Nat.mod_two_eq_zero_or_one (n / 2 ^ j) with h | h <;> rw [h] <;> simp <;> omega
  rw [e, pp_add, pp_mul, pp_two]
  congr 1
  split
  · exact pp_one a
  · rfl
theorem rpow_l0 {a n p : Nat} (ha : a < 2 ^ 64) (hn : n < 2 ^ 64) (hp : 2 ≤ bl p) (hp2 : bl p ≤ 33) : ∀ j : Nat, j ≤ 64 → Ev (fun k => culletref01_PowMod.l0 k a n p (pmod (pp a (n / 2 ^ j)) p : Nat) ((j : Int) - 1)) ((pmod (pp a n) p : Nat), (0 : Int)) := by
  have hp0 : p ≠ 0 := bl_pos.1 (by omega)
  have hp64 : p < 2 ^ 64 := bl_le.1 (by omega)
  intro j
  induction j with
  | zero =>
    intro _
    refine Ev.step (fun k => culletref01_PowMod.l0.eq_2 _ _ _ _ _ k) ?_
    simp only [if_neg (show ¬ (((0 : Nat) : Int) - 1 ≥ 0) by omega)]
    rw [Nat.pow_zero, Nat.div_one]
    exact Ev.now _
  | succ j ih =>
    intro hj
    refine Ev.step (fun k => culletref01_PowMod.l0.eq_2 _ _ _ _ _ k) ?_
    rw [show ((j + 1 : Nat) : Int) - 1 = (j : Nat) by omega]
    have hh := pp_bit a n j
    generalize hx : pp a (n / 2 ^ (j + 1)) = x at hh ⊢
    have hr2 : pmod x p < 2 ^ 64 := pmod_lt64 hp0 hp64
    simp only [if_pos (show ((j : Nat) : Int) ≥ 0 by omega)]
    refine Ev.bind (rtimes hr2 hr2 hp hp2) ?_
    rw [pmod_cl_left hp0, pmod_cl_right hp0]
    rw [u64_wrap_nat (show j < 2 ^ 64 by omega), wrap64_id (by omega) (by omega), bit64 hn (by omega)]
    simp only [if_pos (show (0 : Int) ≤ ((j : Nat) : Int) by omega)]
    have := ih (by omega)
    rw [hh] at this
    by_cases hbit : n.testBit j = true
    · simp only [hbit, if_true] at this ⊢
      refine Ev.bind (rtimes (pmod_lt64 hp0 hp64) ha hp hp2) ?_
      rw [pmod_cl_left hp0]
      exact this
    · simp only [hbit, Bool.false_eq_true, if_false, if_neg (show ¬ ((0 : Int) = 1) by omega), cl_one] at this ⊢
      exact this
theorem rPowMod {a n p : Nat} (ha : a < 2 ^ 64) (hn : n < 2 ^ 64) (hp : 2 ≤ bl p) (hp2 : bl p ≤ 33) : Ev (fun k => culletref01_PowMod.f k a n p) ((pmod (pp a n) p : Nat), (0 : Int)) := by
  unfold culletref01_PowMod.f
  refine Ev.bind (rmod_yes (m := 32) (bl_le.1 (by omega)) ⟨hp, by omega⟩) ?_
  simp only [if_true]
  refine Ev.bind (rdeg hn) ?_
  have := rpow_l0 ha hn hp hp2 (bl n) (bl_le.2 hn)
  rw [Nat.div_eq_of_lt (bl_le.1 (Nat.le_refl _)), show pp a 0 = 1 from rfl, pmod_small (by rw [bl_one]; omega)] at this
  exact this
theorem rPowMod_no {p : Nat} (a b : Int) (hp : p < 2 ^ 64) (h : ¬ (2 ≤ bl p ∧ bl p ≤ 33)) : Ev (fun k => culletref01_PowMod.f k a b p) ((0 : Int), (11 : Int)) := by
  unfold culletref01_PowMod.f
  refine Ev.bind (rmod_no (m := 32) hp h) ?_
  exact Ev.now _
end Go.Proofs.YthldahaimcdejaaDoor.R
