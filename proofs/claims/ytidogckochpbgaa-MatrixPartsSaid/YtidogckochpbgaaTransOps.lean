/- What the printed Transpose of layer 10 computes. -/
import Derived.Test.YtidogckochpbgaaL2
import Derived.Test.YtidogckochpbgaaAx9

namespace Go.Proofs.Ytidogckochpbgaa.R
open Go.RowKit Go.Proofs.YtidogckochpbgaaW.PrintWords Go.Proofs.YtidogckochpbgaaW.PrintLast Go.Proofs.YtidogckochpbgaaW.PrintMore Go.Proofs.Ytidogckochpbgaa.A GP
set_option linter.unusedVariables false
set_option linter.unusedSimpArgs false

/-- The transposed matrix, made as far as (i, j) of the first one. -/
def trTo (A : Nat → Nat → G8) (i j : Nat) : Nat → Nat → G8 := fun a b => if b < i ∨ b = i ∧ a < j then A b a else 0
theorem Transpose_mt {m c : Nat} (hm1 : 1 ≤ m) (hm : m ≤ 256) (hc1 : 1 ≤ c) (hc : c ≤ 256) (A : Nat → Nat → G8) :
    Ev (fun k => matrix_Transpose.f k (mt m c A)) (mt c m (fun i j => A j i), (0 : Int)) := by
  have l1 : ∀ i : Nat, i < m → Ev (fun k => matrix_Transpose.l0 k (mt c m (trTo A (i + 1) 0)) (mt m c A) (m : Int) (((i + 1 : Nat)) : Int)) (mt c m (fun i j => A j i), (0 : Int)) →
      ∀ d j : Nat, c - j ≤ d → j ≤ c → Ev (fun k => matrix_Transpose.l1 k (mt c m (trTo A i j)) (i : Int) (mt m c A) (m : Int) (i : Int) (rw8 c (A i)) (c : Int) (j : Int)) (mt c m (fun i j => A j i), (0 : Int)) := by
    intro i hi next
    have fin : ∀ j : Nat, ¬ j < c → j ≤ c → Ev (fun k => matrix_Transpose.l1 k (mt c m (trTo A i j)) (i : Int) (mt m c A) (m : Int) (i : Int) (rw8 c (A i)) (c : Int) (j : Int)) (mt c m (fun i j => A j i), (0 : Int)) := by
      intro j h1 h2
      obtain rfl : j = c := by omega
      refine Ev.step (fun k => matrix_Transpose.l1.eq_2 _ _ _ _ _ _ _ _ k) ?_
      simp only [if_neg (show ¬ ((j : Nat) : Int) < (j : Int) by omega), wr64 (n := i) (by omega)]
      rw [mt_congr (A := trTo A i j) (B := trTo A (i + 1) 0) (fun a b ha _ => by
        unfold trTo
        have : (b < i ∨ b = i ∧ a < j) ↔ (b < i + 1 ∨ b = i + 1 ∧ a < 0) := by omega
        simp only [this])]
      exact next
    intro d
    induction d with
    | zero => intro j h hj; exact fin j (by omega) hj
    | succ d ih =>
      intro j h hj
      by_cases hlt : j < c
      · refine Ev.step (fun k => matrix_Transpose.l1.eq_2 _ _ _ _ _ _ _ _ k) ?_
        have e := mt_put (r := c) (c := m) hlt i (trTo A i j) (A i j)
        rw [mt_row hlt, mt_congr (A := fun a b => if a = j ∧ b = i then A i j else trTo A i j a b) (B := trTo A i (j + 1)) (fun a b _ _ => by
          unfold trTo
          by_cases h : a = j ∧ b = i
          · obtain ⟨rfl, rfl⟩ := h
            rw [if_pos ⟨rfl, rfl⟩, if_pos (.inr ⟨rfl, by omega⟩)]
          · rw [if_neg h]
            have : (b < i ∨ b = i ∧ a < j) ↔ (b < i ∨ b = i ∧ a < j + 1) := by omega
            simp only [this])] at e
        simp only [if_pos (show ((j : Nat) : Int) < (c : Int) by omega), if_pos (show (0 : Int) ≤ (j : Int) by omega), if_pos (show (0 : Int) ≤ (i : Int) by omega), rw8_len, mt_len, mt_row hlt, if_pos (show ((i : Nat) : Int) < (m : Int) by omega), rw8_get hlt, Int.toNat_natCast, e, wr64 (n := j) (by omega)]
        exact ih (j + 1) (by omega) (by omega)
      · exact fin j hlt hj
  have l0 : ∀ d i : Nat, m - i ≤ d → i ≤ m → Ev (fun k => matrix_Transpose.l0 k (mt c m (trTo A i 0)) (mt m c A) (m : Int) (i : Int)) (mt c m (fun i j => A j i), (0 : Int)) := by
    have fin : ∀ i : Nat, ¬ i < m → i ≤ m → Ev (fun k => matrix_Transpose.l0 k (mt c m (trTo A i 0)) (mt m c A) (m : Int) (i : Int)) (mt c m (fun i j => A j i), (0 : Int)) := by
      intro i h1 h2
      obtain rfl : i = m := by omega
      refine Ev.step (fun k => matrix_Transpose.l0.eq_2 _ _ _ _ k) ?_
      simp only [if_neg (show ¬ ((i : Nat) : Int) < (i : Int) by omega)]
      rw [mt_congr (A := trTo A i 0) (B := fun i j => A j i) (fun a b _ hb => by unfold trTo; rw [if_pos (.inl hb)])]
      exact Ev.now _
    intro d
    induction d with
    | zero => intro i h hi; exact fin i (by omega) hi
    | succ d ih =>
      intro i h hi
      by_cases hlt : i < m
      · refine Ev.step (fun k => matrix_Transpose.l0.eq_2 _ _ _ _ k) ?_
        simp only [if_pos (show ((i : Nat) : Int) < (m : Int) by omega), if_pos (show (0 : Int) ≤ (i : Int) by omega), mt_len, mt_row hlt, rw8_len]
        exact l1 i hlt (ih (i + 1) (by omega) (by omega)) c 0 (by omega) (by omega)
      · exact fin i hlt hi
  have c1 := Check_any (mt m c A)
  rw [chk_mt hm1 hm hc1 (by omega), if_pos rfl] at c1
  have r0 : rd_L1 (mt m c A) 0 = rw8 c (A 0) := mt_row (i := 0) (by omega) c A
  unfold matrix_Transpose.f
  refine Ev.bind c1 ?_
  simp only [if_true, mt_len, if_pos (show (0 : Int) < (m : Int) by omega), r0, rw8_len, decide_eq_false (show ¬ (c : Int) > 256 by omega)]
  refine Ev.step (fun k => matrix_Transpose.j0.eq_2 _ _ k) ?_
  simp only [Bool.false_eq_true, if_false, mt_len, if_pos (show (0 : Int) < (m : Int) by omega), r0, rw8_len]
  refine Ev.bind (Blank (r := c) (c := m) (by omega) (by omega)) ?_
  have := l0 m 0 (by omega) (by omega)
  rw [mt_congr (A := trTo A 0 0) (B := fun _ _ => 0) (fun a b _ _ => by
    unfold trTo
    rw [if_neg (by omega)])] at this
  exact this
end Go.Proofs.Ytidogckochpbgaa.R
