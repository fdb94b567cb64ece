/-
Gf16Calls: every Mul, Inv, Div and Pow of the field of 65536, in every order, is the document's, at every element and every int. No condition.
-/
import Derived.Test.YtedaifgbnojojaaRef03Fns
import Derived.Test.YtedaifgbnojojaaQx10
import Derived.Test.YtedaifgbnojojaaQx9
namespace Go.Proofs.Ytedaifgbnojojaa.Pure
open Go.RowKit Go.Proofs.Ytedaifgbnojojaa.Q Go.Proofs.YtedaifgbnojojaaW.PrintWords Go.Proofs.YtedaifgbnojojaaW.PrintLast Go.Proofs.YtedaifgbnojojaaW.PrintMore Go.Proofs.Ytedaifgbnojojaa.R GP
set_option linter.unusedVariables false
set_option linter.unusedSimpArgs false

theorem plain (o : S28) (ho : okT28 o) : Ev (fun k => culletlaw03_plain.f k o.f0 o.f1 o.f2 o.f3) true := by
  obtain ⟨kind, x, y, n⟩ := o
  obtain ⟨_, hx, hy, _⟩ := ho
  obtain ⟨a, rfl, ha⟩ := of_u16 hx
  obtain ⟨b, rfl, hb⟩ := of_u16 hy
  unfold culletlaw03_plain.f
  show Ev (fun k => if kind = 0 then _ else _) true
  by_cases k0 : kind = 0
  · simp only [if_pos k0]
    refine Ev.bind (Mul16 ha hb) ?_
    refine Ev.bind (RefMul ha hb) ?_
    rw [beq_self_eq_true]
    exact Ev.now _
  · simp only [if_neg k0]
    by_cases k1 : kind = 1
    · simp only [if_pos k1]
      by_cases h0 : a = 0
      · subst h0
        simp only [show ((0 : Nat) : Int) = 0 from rfl, Inv16_zero, RefInv_zero, Option.bind_some, if_true, beq_self_eq_true]
        exact Ev.now _
      · refine Ev.bind (Inv16 ha h0) ?_
        refine Ev.bind (RefInv ha h0) ?_
        simp only [if_true, beq_self_eq_true]
        exact Ev.now _
    · simp only [if_neg k1]
      by_cases k2 : kind = 2
      · simp only [if_pos k2]
        by_cases h0 : b = 0
        · subst h0
          simp only [show ((0 : Nat) : Int) = 0 from rfl, Div16_zero, RefDiv_zero, Option.bind_some, if_true, beq_self_eq_true]
          exact Ev.now _
        · refine Ev.bind (Div16 ha hb h0) ?_
          refine Ev.bind (RefDiv ha hb h0) ?_
          simp only [if_true, beq_self_eq_true]
          exact Ev.now _
      · simp only [if_neg k2]
        by_cases k3 : kind = 3
        · simp only [if_pos k3]
          by_cases h0 : a = 0
          · subst h0
            have e : ∀ k, gf16_Pow.f k ((0 : Nat) : Int) n = culletref03_Pow.f k ((0 : Nat) : Int) n := by
              intro k
              unfold gf16_Pow.f culletref03_Pow.f
              simp only [show (((0 : Nat) : Int) = 0) from rfl, if_true]
              by_cases h1 : n = 0
              · rw [if_pos h1, if_pos h1]
              · rw [if_neg h1, if_neg h1]
                by_cases h2 : n < 0
                · rw [if_pos h2, if_neg (by omega)]
                · rw [if_neg h2, if_pos (by omega)]
            have e2 : ∃ r : Int × Int, Ev (fun k => culletref03_Pow.f k ((0 : Nat) : Int) n) r := by
              unfold culletref03_Pow.f
              simp only [show (((0 : Nat) : Int) = 0) from rfl, if_true]
              by_cases h1 : n = 0
              · simp only [if_pos h1]; exact ⟨_, Ev.now _⟩
              · simp only [if_neg h1]
                by_cases h2 : n > 0
                · simp only [if_pos h2]; exact ⟨_, Ev.now _⟩
                · simp only [if_neg h2]; exact ⟨_, Ev.now _⟩
            obtain ⟨r, hr⟩ := e2
            refine Ev.bind (Ev.congr e hr) ?_
            refine Ev.bind hr ?_
            simp only [if_true, beq_self_eq_true]
            exact Ev.now _
          · refine Ev.bind (Pow16 ha h0 n) ?_
            refine Ev.bind (RefPow ha h0 n) ?_
            simp only [if_true, beq_self_eq_true]
            exact Ev.now _
        · simp only [if_neg k3]
          exact Ev.now _
theorem calls_l0 (l : List S28) (hl : l.length * 24 ≤ 140737488351232) (hok : ∀ x ∈ l, okT28 x) : ∀ (n i : Nat), l.length - i ≤ n → i ≤ l.length → Ev (fun k => culletlaw03_Gf16Calls.l0 k l (l.length : Int) i) true := by
  have fin : ∀ i : Nat, ¬ i < l.length → Ev (fun k => culletlaw03_Gf16Calls.l0 k l (l.length : Int) i) true := by
    intro i hi
    refine Ev.step (fun k => culletlaw03_Gf16Calls.l0.eq_2 _ _ _ k) ?_
    simp only [if_neg (show ¬ ((i : Nat) : Int) < (l.length : Int) by omega)]
    exact Ev.now _
  intro n
  induction n with
  | zero => intro i h _; exact fin i (by omega)
  | succ n ih =>
    intro i h hi
    by_cases hlt : i < l.length
    · refine Ev.step (fun k => culletlaw03_Gf16Calls.l0.eq_2 _ _ _ k) ?_
      simp only [if_pos (show ((i : Nat) : Int) < (l.length : Int) by omega), if_pos (show (0 : Int) ≤ ((i : Nat) : Int) by omega)]
      have hm : okT28 (rd_T28 l i) := by
        unfold rd_T28
        rw [Int.toNat_natCast, List.getD_eq_getElem?_getD, List.getElem?_eq_getElem hlt]
        exact hok _ (List.getElem_mem hlt)
      refine Ev.bind (plain _ hm) ?_
      simp only [if_true]
      rw [wrap64_id (by omega) (by omega)]
      exact ih (i + 1) (by omega) (by omega)
    · exact fin i hlt
theorem Gf16Calls : culletlaw03_Gf16Calls.Pure := by
  rintro l ⟨hl, hok⟩
  apply Ev.rounds
  unfold culletlaw03_Gf16Calls.f
  refine Ev.bind fixed ?_
  simp only [if_true]
  exact calls_l0 l hl hok _ 0 (Nat.le_refl _) (Nat.zero_le _)
end Go.Proofs.Ytedaifgbnojojaa.Pure
