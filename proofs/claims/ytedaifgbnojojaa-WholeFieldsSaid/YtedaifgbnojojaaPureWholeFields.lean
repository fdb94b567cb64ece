/-
WholeFields: for every two u16: both fields, by definition and by tables, are the quotient rings of the polynomials over GF(2); each element but 0 has an inverse there; logarithms turn products into sums. No condition.
-/
import Derived.Test.YtedaifgbnojojaaTab8
import Derived.Test.YtedaifgbnojojaaQx8
import Derived.Test.YtedaifgbnojojaaQx6
import Derived.Test.YtedaifgbnojojaaQx7
namespace Go.Proofs.Ytedaifgbnojojaa.Pure
open Go.RowKit Go.Proofs.Ytedaifgbnojojaa.Q Go.Proofs.YtedaifgbnojojaaW.PrintWords Go.Proofs.YtedaifgbnojojaaW.PrintLast Go.Proofs.YtedaifgbnojojaaW.PrintMore Go.Proofs.Ytedaifgbnojojaa.R GP
set_option linter.unusedVariables false
set_option linter.unusedSimpArgs false

theorem wf_res_eq (n : Int) : ((res n : Nat) : Int) = n % 65535 := by
  have := res_bound n
  have h1 : Int.tmod n 65535 = n - 65535 * Int.tdiv n 65535 := by have := Int.mul_tdiv_add_tmod n 65535; omega
  unfold res
  generalize Int.tdiv n 65535 = q at h1
  split <;> omega
theorem logs8_z {a b l1 e1 l2 e2 : Int} (h : a = 0 ∨ b = 0) (h1 : a = 0 → e1 = 20) (h2 : b = 0 → e2 = 20) : Ev (fun k => cullettop_logs8.j0 k a b l1 e1 l2 e2 true) true := by
  refine Ev.step (fun k => cullettop_logs8.j0.eq_2 _ _ _ _ _ _ _ k) ?_
  simp only [if_true]
  by_cases ha : a = 0
  · simp only [if_pos ha, if_pos (h1 ha)]
    by_cases hb : b = 0
    · simp only [if_pos hb, h2 hb, beq_self_eq_true]; exact Ev.now _
    · simp only [if_neg hb]; exact Ev.now _
  · have hb : b = 0 := h.resolve_left ha
    simp only [if_neg ha, if_pos hb, h2 hb, beq_self_eq_true]; exact Ev.now _
theorem logs8_n {a b l1 l2 p q i : Int} (hx : gf8_Tables_Exp.f (wrap64 (l1 + l2)) = some p) (hm : Ev (fun k => cullettop_mul8.f k a b) p) (hy : gf8_Tables_Exp.f (wrap64 (l1 - l2)) = some q) (hi : Ev (fun k => cullettop_inv8.f k b) i) (hq : Ev (fun k => cullettop_mul8.f k a i) q) : Ev (fun k => cullettop_logs8.j0 k a b l1 0 l2 0 false) true := by
  refine Ev.step (fun k => cullettop_logs8.j0.eq_2 _ _ _ _ _ _ _ k) ?_
  simp only [Bool.false_eq_true, if_false, if_true, hx, hy, Option.bind_some]
  refine Ev.bind hm ?_
  simp only [if_true]
  refine Ev.bind hi ?_
  refine Ev.bind hq ?_
  simp only [beq_self_eq_true]
  exact Ev.now _
theorem log8_zero {a : Int} (h : a = 0) : gf8_Tables_Log.f a = some (0, 20) := by rw [h]; exact TLog8_zero
theorem res8_quot {a b i j : Nat} (ha : a < 256) (hb : b < 256) (h0 : b ≠ 0) (hi : tab8.pw i = a) (hj : tab8.pw j = b) : tab8.pw (res8 ((i : Int) - (j : Int))) = m8 a (i8 b) := by
  have hn := res8_eq ((i : Int) - (j : Int))
  have hl := res8_lt ((i : Int) - (j : Int))
  have e1 : m8 (tab8.pw (res8 ((i : Int) - (j : Int)))) b = a := by
    rw [← hj, ← pw8_add, ← pw8_mod, show (res8 ((i : Int) - (j : Int)) + j) % 255 = i % 255 by omega, pw8_mod, hi]
  have e2 : m8 (m8 a (i8 b)) b = a := by
    show fm 285 (fm 285 a (i8 b)) b = a
    rw [fm_assoc (by decide), show fm 285 (i8 b) b = 1 from fm_inv irr8 bl285 hb h0, fm_one irr8 bl285 ha]
  exact fm_cancel irr8 bl285 hb h0 (tab8.pw_lt _) (m8_lt _ _) (e1.trans e2.symm)
theorem logs8_ok {a b : Nat} (ha : a < 256) (hb : b < 256) : Ev (fun k => cullettop_logs8.f k a b) true := by
  unfold cullettop_logs8.f
  by_cases h0 : a = 0
  · simp only [log8_zero (show (a : Int) = 0 by omega), Option.bind_some]
    by_cases h1 : b = 0
    · simp only [log8_zero (show (b : Int) = 0 by omega), Option.bind_some]
      simp only [if_pos (show (a : Int) = 0 by omega)]
      exact logs8_z (.inl (by omega)) (fun _ => rfl) (fun _ => rfl)
    · obtain ⟨j, hj, ej, _⟩ := log8 hb h1
      simp only [TLog8 hj ej, Option.bind_some]
      simp only [if_pos (show (a : Int) = 0 by omega)]
      exact logs8_z (.inl (by omega)) (fun _ => rfl) (fun h => absurd h (by omega))
  · obtain ⟨i, hi, ei, _⟩ := log8 ha h0
    simp only [TLog8 hi ei, Option.bind_some]
    by_cases h1 : b = 0
    · simp only [log8_zero (show (b : Int) = 0 by omega), Option.bind_some]
      have hz : ((b : Int) == 0) = true := beq_iff_eq.2 (by omega)
      simp only [if_neg (show ¬ (a : Int) = 0 by omega), hz]
      exact logs8_z (.inr (by omega)) (fun h => absurd h (by omega)) (fun _ => rfl)
    · obtain ⟨j, hj, ej, _⟩ := log8 hb h1
      simp only [TLog8 hj ej, Option.bind_some]
      have hz : ((b : Int) == 0) = false := beq_eq_false_iff_ne.2 (by omega)
      simp only [if_neg (show ¬ (a : Int) = 0 by omega), hz]
      refine logs8_n ?_ (topMul8 ha hb) ?_ (topInv8 hb) (topMul8 ha (i8_lt b))
      · rw [wrap64_id (by omega) (by omega), TExp8]
        have hn := res8_eq ((i : Int) + (j : Int))
        rw [show res8 ((i : Int) + (j : Int)) = (i + j) % 255 by omega, pw8_mod, pw8_add, ei, ej]
      · rw [wrap64_id (by omega) (by omega), TExp8, res8_quot ha hb h1 ei ej]
theorem logs16_z {a b l1 e1 l2 e2 : Int} (h : a = 0 ∨ b = 0) (h1 : a = 0 → e1 = 20) (h2 : b = 0 → e2 = 20) : Ev (fun k => cullettop_logs16.j0 k a b l1 e1 l2 e2 true) true := by
  refine Ev.step (fun k => cullettop_logs16.j0.eq_2 _ _ _ _ _ _ _ k) ?_
  simp only [if_true]
  by_cases ha : a = 0
  · simp only [if_pos ha, if_pos (h1 ha)]
    by_cases hb : b = 0
    · simp only [if_pos hb, h2 hb, beq_self_eq_true]; exact Ev.now _
    · simp only [if_neg hb]; exact Ev.now _
  · have hb : b = 0 := h.resolve_left ha
    simp only [if_neg ha, if_pos hb, h2 hb, beq_self_eq_true]; exact Ev.now _
theorem logs16_n {a b l1 l2 p q i : Int} (hx : gf16_Tables_Exp.f (wrap64 (l1 + l2)) = some p) (hm : Ev (fun k => cullettop_mul16.f k a b) p) (hy : gf16_Tables_Exp.f (wrap64 (l1 - l2)) = some q) (hi : Ev (fun k => cullettop_inv16.f k b) i) (hq : Ev (fun k => cullettop_mul16.f k a i) q) : Ev (fun k => cullettop_logs16.j0 k a b l1 0 l2 0 false) true := by
  refine Ev.step (fun k => cullettop_logs16.j0.eq_2 _ _ _ _ _ _ _ k) ?_
  simp only [Bool.false_eq_true, if_false, if_true, hx, hy, Option.bind_some]
  refine Ev.bind hm ?_
  simp only [if_true]
  refine Ev.bind hi ?_
  refine Ev.bind hq ?_
  simp only [beq_self_eq_true]
  exact Ev.now _
theorem log16_zero {a : Int} (h : a = 0) : gf16_Tables_Log.f a = some (0, 20) := by rw [h]; exact TLog16_zero
theorem res16_quot {a b i j : Nat} (ha : a < 65536) (hb : b < 65536) (h0 : b ≠ 0) (hi : tab16.pw i = a) (hj : tab16.pw j = b) : tab16.pw (res ((i : Int) - (j : Int))) = m16 a (i16 b) := by
  have hn := wf_res_eq ((i : Int) - (j : Int))
  have hl := res_lt ((i : Int) - (j : Int))
  have e1 : m16 (tab16.pw (res ((i : Int) - (j : Int)))) b = a := by
    rw [← hj, ← pw16_add, ← pw16_mod, show (res ((i : Int) - (j : Int)) + j) % 65535 = i % 65535 by omega, pw16_mod, hi]
  have e2 : m16 (m16 a (i16 b)) b = a := by
    show fm 65581 (fm 65581 a (i16 b)) b = a
    rw [fm_assoc (by decide), show fm 65581 (i16 b) b = 1 from fm_inv irr16 bl65581 hb h0, fm_one irr16 bl65581 ha]
  exact fm_cancel irr16 bl65581 hb h0 (tab16.pw_lt _) (m16_lt _ _) (e1.trans e2.symm)
theorem logs16_ok {a b : Nat} (ha : a < 65536) (hb : b < 65536) : Ev (fun k => cullettop_logs16.f k a b) true := by
  unfold cullettop_logs16.f
  by_cases h0 : a = 0
  · simp only [log16_zero (show (a : Int) = 0 by omega), Option.bind_some]
    by_cases h1 : b = 0
    · simp only [log16_zero (show (b : Int) = 0 by omega), Option.bind_some]
      simp only [if_pos (show (a : Int) = 0 by omega)]
      exact logs16_z (.inl (by omega)) (fun _ => rfl) (fun _ => rfl)
    · obtain ⟨j, hj, ej, _⟩ := log16 hb h1
      simp only [TLog16 hj ej, Option.bind_some]
      simp only [if_pos (show (a : Int) = 0 by omega)]
      exact logs16_z (.inl (by omega)) (fun _ => rfl) (fun h => absurd h (by omega))
  · obtain ⟨i, hi, ei, _⟩ := log16 ha h0
    simp only [TLog16 hi ei, Option.bind_some]
    by_cases h1 : b = 0
    · simp only [log16_zero (show (b : Int) = 0 by omega), Option.bind_some]
      have hz : ((b : Int) == 0) = true := beq_iff_eq.2 (by omega)
      simp only [if_neg (show ¬ (a : Int) = 0 by omega), hz]
      exact logs16_z (.inr (by omega)) (fun h => absurd h (by omega)) (fun _ => rfl)
    · obtain ⟨j, hj, ej, _⟩ := log16 hb h1
      simp only [TLog16 hj ej, Option.bind_some]
      have hz : ((b : Int) == 0) = false := beq_eq_false_iff_ne.2 (by omega)
      simp only [if_neg (show ¬ (a : Int) = 0 by omega), hz]
      refine logs16_n ?_ (topMul16 ha hb) ?_ (topInv16 hb) (topMul16 ha (i16_lt b))
      · rw [wrap64_id (by omega) (by omega), TExp16]
        have hn := wf_res_eq ((i : Int) + (j : Int))
        rw [show res ((i : Int) + (j : Int)) = (i + j) % 65535 by omega, pw16_mod, pw16_add, ei, ej]
      · rw [wrap64_id (by omega) (by omega), TExp16, res16_quot ha hb h1 ei ej]
theorem gcd8 {a : Nat} (ha : a < 256) (h0 : a ≠ 0) : pgcd a 285 = 1 := by
  rcases irr8.gcd a with k | k
  · exact absurd ((dv_iff irr8 bl285 ha).1 k) h0
  · exact k
theorem InvMod8 {a : Nat} (ha : a < 256) (h0 : a ≠ 0) : Ev (fun k => ring_InvMod.f k a 285) ((i8 a : Nat), (0 : Int)) := by
  rcases InvMod (a := a) (p := 285) (by omega) (by rw [bl285]; decide) (by rw [bl285]; decide) with ⟨_, q, h1, h2, h3⟩ | ⟨h1, _⟩
  · have hq : q < 256 := bl_le.1 (show bl q ≤ 8 by rw [bl285] at h1; omega)
    have e : q = i8 a := inv_unique irr8 bl285 ha hq h2
    rw [← e]; exact h3
  · exact absurd (gcd8 ha h0) h1
theorem InvMod16 {a : Nat} (ha : a < 65536) (h0 : a ≠ 0) : Ev (fun k => ring_InvMod.f k a 65581) ((i16 a : Nat), (0 : Int)) := by
  rcases InvMod (a := a) (p := 65581) (by omega) (by rw [bl65581]; decide) (by rw [bl65581]; decide) with ⟨_, q, h1, h2, h3⟩ | ⟨h1, _⟩
  · have hq : q < 65536 := bl_le.1 (show bl q ≤ 16 by rw [bl65581] at h1; omega)
    have e : q = i16 a := inv_unique irr16 bl65581 ha hq h2
    rw [← e]; exact h3
  · exact absurd (gcd_one ha h0) h1
theorem wf_j2 {a x y b : Nat} (ha : a < 65536) (hb : b < 65536) (hx : x < 256) (hy : y < 256) : Ev (fun k => cullettop_WholeFields.j2 k a b x y) true := by
  refine Ev.step (fun k => cullettop_WholeFields.j2.eq_2 _ _ _ _ k) ?_
  by_cases h0 : a = 0
  · simp only [if_pos (show (a : Int) = 0 by omega)]
    refine Ev.bind (logs8_ok hx hy) ?_
    simp only [if_true]
    exact Ev.bind (logs16_ok ha hb) (Ev.now _)
  · simp only [if_neg (show ¬ (a : Int) = 0 by omega), TInv16 ha h0, Option.bind_some, u64_wrap_nat (show a < 2 ^ 64 by omega)]
    refine Ev.bind (InvMod16 ha h0) ?_
    have hi := i16_lt a
    have hm : m16 a (i16 a) = 1 := by rw [m16_comm]; exact m16_inv ha h0
    simp only [if_true, u64_wrap_nat (show i16 a < 2 ^ 64 by omega), TMul16 ha hi, hm, Option.bind_some, show ((1 : Nat) : Int) = 1 from rfl, bne_self_eq_false]
    refine Ev.step (fun k => cullettop_WholeFields.j3.eq_2 _ _ _ _ _ k) ?_
    simp only [Bool.false_eq_true, if_false]
    refine Ev.bind (logs8_ok hx hy) ?_
    simp only [if_true]
    exact Ev.bind (logs16_ok ha hb) (Ev.now _)
theorem wf_j1 {a x y b : Nat} (ha : a < 65536) (hb : b < 65536) (hx : x < 256) (hy : y < 256) : Ev (fun k => cullettop_WholeFields.j1 k a b x y false) true := by
  refine Ev.step (fun k => cullettop_WholeFields.j1.eq_2 _ _ _ _ _ k) ?_
  simp only [Bool.false_eq_true, if_false]
  by_cases h0 : x = 0
  · simp only [if_pos (show (x : Int) = 0 by omega)]
    exact wf_j2 ha hb hx hy
  · simp only [if_neg (show ¬ (x : Int) = 0 by omega), TInv8 hx h0, Option.bind_some, u64_wrap_nat (show x < 2 ^ 64 by omega)]
    refine Ev.bind (InvMod8 hx h0) ?_
    have hi := i8_lt x
    have hm : m8 x (i8 x) = 1 := by rw [fm_comm_8]; exact fm_inv irr8 bl285 hx h0
    simp only [if_true, u64_wrap_nat (show i8 x < 2 ^ 64 by omega), TMul8 hx hi, hm, Option.bind_some, show ((1 : Nat) : Int) = 1 from rfl]
    exact wf_j2 ha hb hx hy
theorem m8_37 : m8 3 7 = 9 := by
  show fm 285 3 7 = 9
  rw [← mulf_eq (by decide) (by decide) (by decide)]; decide +kernel
theorem m16_37 : m16 3 7 = 9 := by
  show fm 65581 3 7 = 9
  rw [← mulf_eq (by decide) (by decide) (by decide)]; decide +kernel
theorem WholeFields : cullettop_WholeFields.Pure := by
  intro p q hp hq
  obtain ⟨a, rfl, ha⟩ := of_u16 hp
  obtain ⟨b, rfl, hb⟩ := of_u16 hq
  apply Ev.rounds
  unfold cullettop_WholeFields.f gf8_New.f gf16_New.f
  obtain ⟨x, hx⟩ : ∃ x, x = a % 256 := ⟨_, rfl⟩
  obtain ⟨y, hy⟩ : ∃ y, y = b % 256 := ⟨_, rfl⟩
  have ex : (a : Int) % 256 = (x : Int) := by omega
  have ey : (b : Int) % 256 = (y : Int) := by omega
  have hxl : x < 256 := by omega
  have hyl : y < 256 := by omega
  have h8 := m8_lt x y
  have h16 := m16_lt a b
  have t8 : gf8_Tables_Mul.f 3 7 = some 9 := by have := TMul8 (a := 3) (b := 7) (by decide) (by decide); rw [m8_37] at this; exact this
  have t16 : gf16_Tables_Mul.f 3 7 = some 9 := by have := TMul16 (a := 3) (b := 7) (by decide) (by decide); rw [m16_37] at this; exact this
  simp only [Option.bind_some, ex, ey, u64_wrap_nat (show a < 2 ^ 64 by omega), u64_wrap_nat (show b < 2 ^ 64 by omega)]
  refine Ev.bind (MulMod (a := x) (b := y) (p := 285) (by omega) (by omega) (by rw [bl285]; decide) (by rw [bl285]; decide)) ?_
  refine Ev.bind (MulMod (a := a) (b := b) (p := 65581) (by omega) (by omega) (by rw [bl65581]; decide) (by rw [bl65581]; decide)) ?_
  have e8 : pmod (cl x y) 285 = m8 x y := rfl
  have e16 : pmod (cl a b) 65581 = m16 a b := rfl
  simp only [if_true, t8, t16, Option.bind_some, bne_self_eq_false, e8, e16]
  refine Ev.step (fun k => cullettop_WholeFields.j0.eq_2 _ _ _ _ _ _ _ k) ?_
  simp only [Bool.false_eq_true, if_false, TMul8 hxl hyl, TMul16 ha hb, Option.bind_some, u64_wrap_nat (show m8 x y < 2 ^ 64 by omega), u64_wrap_nat (show m16 a b < 2 ^ 64 by omega), if_true]
  refine Ev.bind (Mul8 hxl hyl) ?_
  simp only [u64_wrap_nat (show m8 x y < 2 ^ 64 by omega), if_true]
  refine Ev.bind (Mul16 ha hb) ?_
  simp only [u64_wrap_nat (show m16 a b < 2 ^ 64 by omega), bne_self_eq_false]
  exact wf_j1 ha hb hxl hyl
end Go.Proofs.Ytedaifgbnojojaa.Pure
