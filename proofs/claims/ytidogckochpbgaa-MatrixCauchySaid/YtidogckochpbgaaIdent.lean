/- What the printed Identity of layer 10 computes. -/
import Derived.Test.YtidogckochpbgaaL2
import Derived.Test.YtidogckochpbgaaAx5
namespace Go.Proofs.Ytidogckochpbgaa.R
open Go.RowKit Go.Proofs.YtidogckochpbgaaW.PrintWords Go.Proofs.YtidogckochpbgaaW.PrintLast Go.Proofs.YtidogckochpbgaaW.PrintMore Go.Proofs.Ytidogckochpbgaa.A GP
set_option linter.unusedVariables false
set_option linter.unusedSimpArgs false

theorem mt_zero (r c : Nat) : mat r c (fun _ _ => 0) = mt r c (fun _ _ => 0) := rfl
/-- The identity, made as far as row i. -/
def oneTo (i : Nat) : Nat → Nat → G8 := fun a b => if a < i then LA.one a b else 0
theorem Ident {n : Nat} (h1 : 1 ≤ n) (h2 : n ≤ 256) : Ev (fun k => matrix_Identity.f k (n : Int)) (mt n n LA.one, (0 : Int)) := by
  have go : ∀ d i : Nat, n - i ≤ d → i ≤ n → Ev (fun k => matrix_Identity.l0 k (mt n n (oneTo i)) (n : Int) (i : Int)) (mt n n LA.one, (0 : Int)) := by
    intro d
    induction d with
    | zero =>
      intro i h hi
      obtain rfl : i = n := by omega
      refine Ev.step (fun k => matrix_Identity.l0.eq_2 _ _ _ k) ?_
      simp only [if_neg (show ¬ ((i : Nat) : Int) < (i : Int) by omega)]
      rw [mt_congr (A := oneTo i) (B := LA.one) (fun a b ha _ => by unfold oneTo; rw [if_pos ha])]
      exact Ev.now _
    | succ d ih =>
      intro i h hi
      by_cases hlt : i < n
      · refine Ev.step (fun k => matrix_Identity.l0.eq_2 _ _ _ k) ?_
        have e := mt_put (r := n) (c := n) hlt i (oneTo i) 1
        have e1 : ((((1 : G8).v : Nat)) : Int) = 1 := rfl
        rw [e1] at e
        simp only [if_pos (show ((i : Nat) : Int) < (n : Int) by omega), if_pos (show (0 : Int) ≤ (i : Int) by omega), mt_len, mt_row hlt, rw8_len, Int.toNat_natCast, wr64 (n := i) (by omega)]
        rw [← mt_row hlt, e]
        rw [mt_congr (A := fun a b => if a = i ∧ b = i then (1 : G8) else oneTo i a b) (B := oneTo (i + 1)) (fun a b _ _ => by
          unfold oneTo LA.one
          by_cases ha : a = i
          · subst ha
            by_cases hb : b = a
            · subst hb; simp
            · rw [if_neg (fun h => hb h.2), if_neg (by omega), if_pos (by omega), if_neg (fun h => hb h.symm)]
          · rw [if_neg (fun h => ha h.1)]
            have : a < i ↔ a < i + 1 := by omega
            simp only [this])]
        exact ih (i + 1) (by omega) (by omega)
      · obtain rfl : i = n := by omega
        refine Ev.step (fun k => matrix_Identity.l0.eq_2 _ _ _ k) ?_
        simp only [if_neg (show ¬ ((i : Nat) : Int) < (i : Int) by omega)]
        rw [mt_congr (A := oneTo i) (B := LA.one) (fun a b ha _ => by unfold oneTo; rw [if_pos ha])]
        exact Ev.now _
  unfold matrix_Identity.f
  simp only [if_neg (show ¬ (n : Int) < 1 by omega), decide_eq_false (show ¬ (n : Int) > 256 by omega)]
  refine Ev.step (fun k => matrix_Identity.j0.eq_2 _ _ k) ?_
  simp only [Bool.false_eq_true, if_false]
  refine Ev.bind (Blank (r := n) (c := n) (by omega) (by omega)) ?_
  simp only [mat_len]
  have := go n 0 (by omega) (by omega)
  rw [mt_congr (A := oneTo 0) (B := fun _ _ => 0) (fun a b _ _ => by unfold oneTo; rw [if_neg (by omega)])] at this
  exact this
end Go.Proofs.Ytidogckochpbgaa.R
