/- What the printed functions of the ring compute, second part: residues, inverses, Rabin's test, orders. -/
import Derived.Test.YthldahaimcdejaaDoorRingFns

namespace Go.Proofs.YthldahaimcdejaaDoor.R
open Go.RowKit Go.Proofs.YthldahaimcdejaaDoorW.PrintWords Go.Proofs.YthldahaimcdejaaDoorW.PrintLast Go.Proofs.YthldahaimcdejaaDoorW.PrintMore Go.Proofs.YthldahaimcdejaaDoor.A GP
set_option linter.unusedVariables false
set_option linter.unusedSimpArgs false

theorem isMod {a : Nat} (ha : a < 2 ^ 64) (m : Nat) : ring_isModulus.f a m = some (decide (2 ≤ bl a ∧ bl a ≤ m + 1)) := by
  unfold ring_isModulus.f
  rw [deg ha, Option.bind_some]
  by_cases h : 2 ≤ bl a
  · rw [if_pos (by omega)]
    by_cases h2 : bl a ≤ m + 1
    · rw [decide_eq_true (show (bl a : Int) - 1 ≤ m by omega), decide_eq_true ⟨h, h2⟩]
    · rw [decide_eq_false (show ¬ (bl a : Int) - 1 ≤ m by omega), decide_eq_false (fun k => h2 k.2)]
  · rw [if_neg (by omega), decide_eq_false (fun k => h k.1)]

theorem double_mod {p r d : Nat} (hp : bl p = d + 1) (hr : bl r ≤ d) : pmod (2 * r) p = if (2 * r).testBit d then 2 * r ^^^ p else 2 * r := by
  have hp0 : p ≠ 0 := bl_pos.1 (by omega)
  have h2 : bl (2 * r) ≤ d + 1 := by
    by_cases h0 : r = 0
    · subst h0; rw [Nat.mul_zero, bl_zero]; omega
    · rw [bl_double h0]; omega
  by_cases hb : (2 * r).testBit d = true
  · rw [if_pos hb]
    have h3 := bl_of_bit hb
    have h4 : bl (2 * r) = bl p := by omega
    have h5 : 2 * r ≠ 0 := bl_pos.1 (by omega)
    have h6 := bl_xor_lt h4 h5
    exact ((div_unique hp0 (a := 2 * r) (q := 1) (r := 2 * r ^^^ p) (by rw [one_cl, Nat.xor_comm (2 * r), xor_cancel_left]) (by omega)).2).symm
  · rw [if_neg hb]
    apply pmod_small
    by_cases h3 : bl (2 * r) = d + 1
    · exact absurd (top_bit h3) hb
    · omega
theorem cl_half (a b j : Nat) : cl a (b / 2 ^ j) = (if b.testBit j then a else 0) ^^^ (2 * cl a (b / 2 ^ (j + 1))) := by
  rw [cl_step, Nat.div_div_eq_div_mul, ← Nat.pow_succ, Nat.testBit_eq_decide_div_mod_eq]
  rcases Nat.mod_two_eq_zero_or_one (b / 2 ^ j) with e | e <;> rw [e] <;> simp
theorem mulMod_l0 {a b p d : Nat} (hp : bl p = d + 1) (hd : 1 ≤ d) (hd2 : d ≤ 32) (ha : bl a ≤ d) (hb : b < 2 ^ 64) : ∀ j : Nat, j ≤ d →
    Ev (fun k => ring_mulMod.l0 k a b p ((bl p : Int) - 1) (pmod (cl a (b / 2 ^ j)) p : Nat) ((j : Int) - 1)) (pmod (cl a b) p : Nat) := by
  have hp0 : p ≠ 0 := bl_pos.1 (by omega)
  have hp64 : p < 2 ^ 64 := bl_le.1 (by omega)
  have ha64 : a < 2 ^ 64 := bl_le.1 (by omega)
  have edp : (bl p : Int) - 1 = (d : Nat) := by omega
  rw [edp]
  intro j
  induction j with
  | zero =>
    intro _
    refine Ev.step (fun k => ring_mulMod.l0.eq_2 _ _ _ _ _ _ k) ?_
    simp only [if_neg (show ¬ (((0 : Nat) : Int) - 1) ≥ 0 by omega)]
    rw [Nat.pow_zero, Nat.div_one]
    exact Ev.now _
  | succ j ih =>
    intro hj
    refine Ev.step (fun k => ring_mulMod.l0.eq_2 _ _ _ _ _ _ k) ?_
    have ej : (((j + 1 : Nat) : Int) - 1) = (j : Nat) := by omega
    have hr := pmod_lt hp0 (cl a (b / 2 ^ (j + 1)))
    generalize hrr : pmod (cl a (b / 2 ^ (j + 1))) p = r at hr ⊢
    have hr2 : r < 2 ^ 32 := bl_le.1 (by omega)
    have hr3 : 2 * r < 2 ^ 64 := by omega
    rw [ej, show ((r : Int) * 2) = ((2 * r : Nat) : Int) by omega, u64_wrap_nat hr3, bit64 hr3 (by omega), bit64 hb (by omega), wrap64_id (by omega) (by omega)]
    simp only [if_pos (show ((j : Nat) : Int) ≥ 0 by omega), if_pos (show (0 : Int) ≤ ((d : Nat) : Int) by omega), if_pos (show (0 : Int) ≤ ((j : Nat) : Int) by omega)]
    have ihj := ih (by omega)
    have hdm := double_mod hp (r := r) (by omega)
    have hmain : pmod (cl a (b / 2 ^ j)) p = (if b.testBit j then a else 0) ^^^ pmod (2 * r) p := by
      have e2 : pmod (2 * cl a (b / 2 ^ (j + 1))) p = pmod (2 * r) p := by
        have := pmod_cl_right hp0 2 (cl a (b / 2 ^ (j + 1)))
        rw [hrr, cl_comm 2 r, cl_comm 2] at this
        have t1 : ∀ x, cl x 2 = 2 * x := by intro x; have := cl_pow x 1; rw [Nat.pow_one] at this; omega
        rw [t1, t1] at this
        exact this.symm
      rw [cl_half, pmod_xor hp0, e2]
      congr 1
      by_cases hbit : b.testBit j = true
      · rw [if_pos hbit]; exact pmod_small (by omega)
      · rw [if_neg hbit]; exact pmod_small (by rw [bl_zero]; omega)
    rw [hmain, hdm] at ihj
    by_cases h1 : (2 * r).testBit d = true
    · by_cases h2 : b.testBit j = true
      · simp only [h1, h2, if_true]
        rw [if_pos h1, if_pos h2] at ihj
        rw [bits_xor64 hr3 hp64, bits_xor64 (Nat.xor_lt_two_pow hr3 hp64) ha64, Nat.xor_comm _ a]
        exact ihj
      · simp only [h1, h2, if_true, if_false, Bool.false_eq_true, show ¬ ((0 : Int) = 1) by decide]
        rw [if_pos h1, if_neg h2, Nat.zero_xor] at ihj
        rw [bits_xor64 hr3 hp64]
        exact ihj
    · by_cases h2 : b.testBit j = true
      · simp only [h1, h2, if_true, if_false, Bool.false_eq_true, show ¬ ((0 : Int) = 1) by decide]
        rw [if_neg h1, if_pos h2] at ihj
        rw [bits_xor64 hr3 ha64, Nat.xor_comm _ a]
        exact ihj
      · simp only [h1, h2, if_true, if_false, Bool.false_eq_true, show ¬ ((0 : Int) = 1) by decide]
        rw [if_neg h1, if_neg h2, Nat.zero_xor] at ihj
        exact ihj
theorem mulMod {a b p : Nat} (ha : a < 2 ^ 64) (hb : b < 2 ^ 64) (hp : 2 ≤ bl p) (hp2 : bl p ≤ 33) : Ev (fun k => ring_mulMod.f k a b p) (pmod (cl a b) p : Nat) := by
  have hp0 : p ≠ 0 := bl_pos.1 (by omega)
  have hp64 : p < 2 ^ 64 := bl_le.1 (by omega)
  obtain ⟨d, hd⟩ : ∃ d, bl p = d + 1 := ⟨bl p - 1, by omega⟩
  unfold ring_mulMod.f
  refine Ev.bind (divMod hp0 ha hp64) ?_
  refine Ev.bind (divMod hp0 hb hp64) ?_
  simp only [deg hp64, Option.bind_some]
  have h1 := pmod_lt hp0 a
  have h2 := pmod_lt hp0 b
  have := mulMod_l0 hd (by omega) (by omega) (a := pmod a p) (b := pmod b p) (by omega) (pmod_lt64 hp0 hp64) d (Nat.le_refl _)
  rw [Nat.div_eq_of_lt (bl_le.1 (show bl (pmod b p) ≤ d by omega)), cl_zero, pmod_cl_left hp0, pmod_cl_right hp0] at this
  have e0 : pmod 0 p = 0 := pmod_small (by rw [bl_zero]; omega)
  rw [e0] at this
  have e1 : (d : Int) - 1 = wrap64 ((bl p : Int) - 1 - 1) := by rw [wrap64_id (by omega) (by omega)]; omega
  rw [e1] at this
  exact this
theorem MulMod {a b p : Nat} (ha : a < 2 ^ 64) (hb : b < 2 ^ 64) (hp : 2 ≤ bl p) (hp2 : bl p ≤ 33) : Ev (fun k => ring_MulMod.f k a b p) ((pmod (cl a b) p : Nat), (0 : Int)) := by
  have hp64 : p < 2 ^ 64 := bl_le.1 (by omega)
  unfold ring_MulMod.f
  have := isMod hp64 32
  rw [decide_eq_true ⟨hp, by omega⟩] at this
  simp only [show ((32 : Nat) : Int) = 32 from rfl] at this
  simp only [this, Option.bind_some, if_true]
  exact Ev.bind (mulMod ha hb hp hp2) (Ev.now _)
theorem pp_double (a m : Nat) : pp a (2 * m) = pp (cl a a) m := by rw [pp_mul, pp_two]
theorem PowMod_l0 {p : Nat} (hp : 2 ≤ bl p) (hp2 : bl p ≤ 33) : ∀ (w n a r : Nat), n < 2 ^ w → n < 2 ^ 64 → a < 2 ^ 64 → bl r < bl p →
    Ev (fun k => ring_PowMod.l0 k a n p r) ((pmod (cl r (pp a n)) p : Nat), (0 : Int)) := by
  have hp0 : p ≠ 0 := bl_pos.1 (by omega)
  have hp64 : p < 2 ^ 64 := bl_le.1 (by omega)
  intro w
  induction w with
  | zero =>
    intro n a r hn _ ha hr
    have : n = 0 := by omega
    subst this
    refine Ev.step (fun k => ring_PowMod.l0.eq_2 _ _ _ _ k) ?_
    simp only [if_neg (show ¬ ((0 : Nat) : Int) > 0 by omega)]
    rw [pp, cl_one, pmod_small hr]
    exact Ev.now _
  | succ w ih =>
    intro n a r hn hn64 ha hr
    refine Ev.step (fun k => ring_PowMod.l0.eq_2 _ _ _ _ k) ?_
    by_cases h0 : n = 0
    · subst h0
      simp only [if_neg (show ¬ ((0 : Nat) : Int) > 0 by omega)]
      rw [pp, cl_one, pmod_small hr]
      exact Ev.now _
    · have hr64 : r < 2 ^ 64 := bl_le.1 (by omega)
      have hand := bits_and64 (a := n) (b := 1) hn64 (by decide)
      rw [show ((1 : Nat) : Int) = 1 from rfl, Nat.and_one_is_mod] at hand
      simp only [if_pos (show ((n : Nat) : Int) > 0 by omega), hand]
      have hhalf : ((n : Nat) : Int) / 2 = ((n / 2 : Nat) : Int) := by omega
      rw [hhalf]
      have hn2 : n / 2 < 2 ^ w := by rw [Nat.pow_succ] at hn; omega
      rcases Nat.mod_two_eq_zero_or_one n with e | e
      · simp only [e, show ¬ (((0 : Nat) : Int) = 1) by decide, if_false]
        refine Ev.bind (mulMod ha ha hp hp2) ?_
        have := ih (n / 2) (pmod (cl a a) p) r hn2 (by omega) (pmod_lt64 hp0 hp64) hr
        rw [← pmod_cl_right hp0 r, pp_pmod hp0, pmod_cl_right hp0, ← pp_double, show 2 * (n / 2) = n by omega] at this
        exact this
      · simp only [e, show (((1 : Nat) : Int) = 1) by decide, if_true]
        refine Ev.bind (mulMod hr64 ha hp hp2) ?_
        refine Ev.bind (mulMod ha ha hp hp2) ?_
        have := ih (n / 2) (pmod (cl a a) p) (pmod (cl r a) p) hn2 (by omega) (pmod_lt64 hp0 hp64) (pmod_lt hp0 _)
        rw [pmod_cl_left hp0, ← pmod_cl_right hp0 (cl r a), pp_pmod hp0, pmod_cl_right hp0, ← pp_double, cl_assoc, cl_comm a (pp a (2 * (n / 2))), ← pp_succ, show 2 * (n / 2) + 1 = n by omega] at this
        exact this
theorem PowMod {a n p : Nat} (ha : a < 2 ^ 64) (hn : n < 2 ^ 64) (hp : 2 ≤ bl p) (hp2 : bl p ≤ 33) : Ev (fun k => ring_PowMod.f k a n p) ((pmod (pp a n) p : Nat), (0 : Int)) := by
  have hp64 : p < 2 ^ 64 := bl_le.1 (by omega)
  unfold ring_PowMod.f
  have h1 := isMod hp64 32
  rw [decide_eq_true ⟨hp, by omega⟩] at h1
  simp only [show ((32 : Nat) : Int) = 32 from rfl] at h1
  simp only [h1, Option.bind_some, if_true]
  have := PowMod_l0 hp hp2 64 n a 1 hn hn ha (by rw [bl_one]; omega)
  rw [one_cl] at this
  exact this
theorem not_mod {p : Nat} (hp64 : p < 2 ^ 64) {m : Nat} (h : ¬ (2 ≤ bl p ∧ bl p ≤ m + 1)) : ring_isModulus.f p m = some false := by
  rw [isMod hp64, decide_eq_false h]
theorem is_mod {p : Nat} (hp64 : p < 2 ^ 64) {m : Nat} (h : 2 ≤ bl p ∧ bl p ≤ m + 1) : ring_isModulus.f p m = some true := by
  rw [isMod hp64, decide_eq_true h]

theorem InvMod_l0 {a p : Nat} (hp : 2 ≤ bl p) (hp2 : bl p ≤ 33) : ∀ (n x y s t : Nat), bl y ≤ n → x < 2 ^ 64 → y < 2 ^ 64 → bl s < bl p → bl t < bl p →
    Dv p (x ^^^ cl s a) → Dv p (y ^^^ cl t a) → ∃ q : Nat, ((pgcd x y = 1 ∧ bl q < bl p ∧ pmod (cl q a) p = 1) ∧
    Ev (fun k => ring_InvMod.l0 k p y x s t) ((q : Int), (0 : Int))) ∨ (pgcd x y ≠ 1 ∧ Ev (fun k => ring_InvMod.l0 k p y x s t) ((0 : Int), (12 : Int))) := by
  have hp0 : p ≠ 0 := bl_pos.1 (by omega)
  have hp64 : p < 2 ^ 64 := bl_le.1 (by omega)
  have fin : ∀ (x s t : Nat), x < 2 ^ 64 → bl s < bl p → Dv p (x ^^^ cl s a) → ∃ q : Nat, ((pgcd x 0 = 1 ∧ bl q < bl p ∧ pmod (cl q a) p = 1) ∧
    Ev (fun k => ring_InvMod.l0 k p (0 : Nat) x s t) ((q : Int), (0 : Int))) ∨ (pgcd x 0 ≠ 1 ∧ Ev (fun k => ring_InvMod.l0 k p (0 : Nat) x s t) ((0 : Int), (12 : Int))) := by
    intro x s t hx hs hxs
    refine ⟨pmod s p, ?_⟩
    rw [pgcd_zero]
    by_cases h1 : x = 1
    · left
      subst h1
      refine ⟨⟨rfl, pmod_lt hp0 s, ?_⟩, ?_⟩
      · rw [pmod_cl_left hp0, ← (pmod_eq_iff hp0).2 hxs]
        exact pmod_small (by rw [bl_one]; omega)
      · refine Ev.step (fun k => ring_InvMod.l0.eq_2 _ _ _ _ _ k) ?_
        simp only [if_pos (show ((0 : Nat) : Int) = 0 from rfl), if_pos (show ((1 : Nat) : Int) = 1 from rfl)]
        exact Ev.bind (divMod hp0 (bl_le.1 (by omega)) hp64) (Ev.now _)
    · right
      refine ⟨h1, ?_⟩
      refine Ev.step (fun k => ring_InvMod.l0.eq_2 _ _ _ _ _ k) ?_
      simp only [if_pos (show ((0 : Nat) : Int) = 0 from rfl), if_neg (show ¬ ((x : Nat) : Int) = 1 by omega)]
      exact Ev.now _
  intro n
  induction n with
  | zero =>
    intro x y s t h hx hy hs ht hxs hyt
    have : y = 0 := bl_eq_zero.1 (by omega)
    subst this
    exact fin x s t hx hs hxs
  | succ n ih =>
    intro x y s t h hx hy hs ht hxs hyt
    by_cases h0 : y = 0
    · subst h0; exact fin x s t hx hs hxs
    · have hq64 : pquo x y < 2 ^ 64 := by
        by_cases hq : pquo x y = 0
        · rw [hq]; exact Nat.two_pow_pos _
        · apply bl_le.1
          have e := div_eq h0 x
          have l := pmod_lt h0 x
          have e2 := bl_cl hq h0
          have hy1 := bl_pos.2 h0
          have hq1 := bl_pos.2 hq
          have hx2 := bl_le.2 hx
          rw [e] at hx2
          rw [bl_xor_of_lt (by omega)] at hx2
          omega
      have ht64 : t < 2 ^ 64 := bl_le.1 (by omega)
      have hm := pmod_lt hp0 (cl (pquo x y) t)
      have hbd := bl_xor_le (x := s) (y := pmod (cl (pquo x y) t) p) (n := bl p - 1) (by omega) (by omega)
      have key : Dv p (pmod x y ^^^ cl (s ^^^ pmod (cl (pquo x y) t) p) a) := by
        have e1 : pmod x y = x ^^^ cl (pquo x y) y := by
          have := div_eq h0 x
          rw [Nat.xor_comm] at this
          exact xor_eq_iff.1 this.symm
        have e2 : Dv p (cl (cl (pquo x y) t ^^^ pmod (cl (pquo x y) t) p) a) := (dv_xor_pmod hp0 _).mul_right a
        have e3 : Dv p (cl (pquo x y) (y ^^^ cl t a)) := hyt.mul_left _
        have e4 := (hxs.xor e3).xor e2
        rw [e1]
        have e5 : ((x ^^^ cl s a) ^^^ cl (pquo x y) (y ^^^ cl t a)) ^^^ cl (cl (pquo x y) t ^^^ pmod (cl (pquo x y) t) p) a = (x ^^^ cl (pquo x y) y) ^^^ cl (s ^^^ pmod (cl (pquo x y) t) p) a := by
          rw [cl_xor_left, cl_xor_left, cl_xor_right, cl_assoc]
          generalize cl (pquo x y) (cl t a) = z
          calc ((x ^^^ cl s a) ^^^ (cl (pquo x y) y ^^^ z)) ^^^ (z ^^^ cl (pmod (cl (pquo x y) t) p) a)
              = ((x ^^^ cl (pquo x y) y) ^^^ (cl s a ^^^ cl (pmod (cl (pquo x y) t) p) a)) ^^^ (z ^^^ z) := by ac_rfl
            _ = _ := by rw [Nat.xor_self, Nat.xor_zero]
        rwa [e5] at e4
      obtain ⟨q, hq⟩ := ih y (pmod x y) t (s ^^^ pmod (cl (pquo x y) t) p) (by have := pmod_lt h0 x; omega) hy (pmod_lt64 h0 hy) ht (by omega) hyt key
      refine ⟨q, ?_⟩
      rw [pgcd_step h0]
      have stp : ∀ r, Ev (fun k => ring_InvMod.l0 k p (pmod x y : Nat) y t (s ^^^ pmod (cl (pquo x y) t) p : Nat)) r → Ev (fun k => ring_InvMod.l0 k p y x s t) r := by
        intro r hr
        refine Ev.step (fun k => ring_InvMod.l0.eq_2 _ _ _ _ _ k) ?_
        simp only [if_neg (show ¬ ((y : Nat) : Int) = 0 by omega)]
        refine Ev.bind (divMod h0 hx hy) ?_
        refine Ev.bind (mulMod hq64 ht64 hp hp2) ?_
        rw [bits_xor64 (bl_le.1 (by omega)) (pmod_lt64 hp0 hp64)]
        exact hr
      rcases hq with ⟨h1, h2⟩ | ⟨h1, h2⟩
      · exact .inl ⟨h1, stp _ h2⟩
      · exact .inr ⟨h1, stp _ h2⟩
theorem InvMod {a p : Nat} (ha : a < 2 ^ 64) (hp : 2 ≤ bl p) (hp2 : bl p ≤ 33) :
    (pgcd a p = 1 ∧ ∃ q : Nat, bl q < bl p ∧ pmod (cl q a) p = 1 ∧ Ev (fun k => ring_InvMod.f k a p) ((q : Int), (0 : Int))) ∨ (pgcd a p ≠ 1 ∧ Ev (fun k => ring_InvMod.f k a p) ((0 : Int), (12 : Int))) := by
  have hp0 : p ≠ 0 := bl_pos.1 (by omega)
  have hp64 : p < 2 ^ 64 := bl_le.1 (by omega)
  have h1 := is_mod hp64 (m := 32) ⟨hp, by omega⟩
  simp only [show ((32 : Nat) : Int) = 32 from rfl] at h1
  obtain ⟨q, hq⟩ := InvMod_l0 (a := a) hp hp2 _ p (pmod a p) 0 1 (Nat.le_refl _) hp64 (pmod_lt64 hp0 hp64) (by rw [bl_zero]; omega) (by rw [bl_one]; omega)
    (by rw [zero_cl, Nat.xor_zero]; exact Dv.refl p) (by rw [one_cl, Nat.xor_comm]; exact dv_xor_pmod hp0 a)
  rw [pgcd_comm, pgcd_pmod hp0] at hq
  have stp : ∀ r, Ev (fun k => ring_InvMod.l0 k p (pmod a p : Nat) p (0 : Nat) (1 : Nat)) r → Ev (fun k => ring_InvMod.f k a p) r := by
    intro r hr
    unfold ring_InvMod.f
    simp only [h1, Option.bind_some, if_true]
    exact Ev.bind (divMod hp0 ha hp64) hr
  rcases hq with ⟨⟨e1, e2, e3⟩, e4⟩ | ⟨e1, e2⟩
  · exact .inl ⟨e1, q, e2, e3, stp _ e4⟩
  · exact .inr ⟨e1, stp _ e2⟩
end Go.Proofs.YthldahaimcdejaaDoor.R
