/- What the theorems' own helpers of layer 10 compute: same, side, one. -/
import Derived.Test.YtidogckochpbgaaIdent
import Derived.Test.YtidogckochpbgaaQx1
namespace Go.Proofs.Ytidogckochpbgaa.R
open Go.RowKit Go.Proofs.YtidogckochpbgaaW.PrintWords Go.Proofs.YtidogckochpbgaaW.PrintLast Go.Proofs.YtidogckochpbgaaW.PrintMore Go.Proofs.Ytidogckochpbgaa.A Go.Proofs.Ytidogckochpbgaa.Q GP
set_option linter.unusedVariables false
set_option linter.unusedSimpArgs false

theorem q_rd : @Q.rd_L1 = @A.rd_L1 := rfl
theorem mt_lens {m c : Nat} {A : Nat → Nat → G8} {x : List Int} (h : x ∈ mt m c A) : x.length = c := by
  obtain ⟨i, hi, rfl⟩ := List.mem_map.1 h
  exact rowOf_len _ _
/-- same tells true of a list and itself. -/
theorem Same_self {l : List (List Int)} (h1 : l.length < 2 ^ 62) (h2 : ∀ x, x ∈ l → x.length < 2 ^ 62) : Ev (fun k => culletlaw10_same.f k l l) true := by
  have h3 : ∀ i, i < l.length → (l.getD i []).length < 2 ^ 62 := fun i hi => by
    rw [List.getD_eq_getElem?_getD, List.getElem?_eq_getElem hi]
    exact h2 _ (List.getElem_mem hi)
  have l1 : ∀ i : Nat, i < l.length → Ev (fun k => culletlaw10_same.l0 k l l (((i + 1 : Nat)) : Int)) true → ∀ d j : Nat, (l.getD i []).length - j ≤ d → j ≤ (l.getD i []).length → Ev (fun k => culletlaw10_same.l1 k l l (i : Int) (j : Int)) true := by
    intro i hi next d
    have hn := h3 i hi
    induction d with
    | zero =>
      intro j h hj
      refine Ev.step (fun k => culletlaw10_same.l1.eq_2 _ _ _ _ k) ?_
      simp only [q_rd, if_pos (show (0 : Int) ≤ (i : Int) by omega), if_pos (show ((i : Nat) : Int) < (l.length : Int) by omega), rdl, if_neg (show ¬ ((j : Nat) : Int) < ((l.getD i []).length : Int) by omega), wr64 (n := i) (by omega)]
      exact next
    | succ d ih =>
      intro j h hj
      refine Ev.step (fun k => culletlaw10_same.l1.eq_2 _ _ _ _ k) ?_
      by_cases hlt : j < (l.getD i []).length
      · simp only [q_rd, if_pos (show (0 : Int) ≤ (i : Int) by omega), if_pos (show ((i : Nat) : Int) < (l.length : Int) by omega), rdl, if_pos (show ((j : Nat) : Int) < ((l.getD i []).length : Int) by omega), if_pos (show (0 : Int) ≤ (j : Int) by omega), if_true, wr64 (n := j) (by omega)]
        exact ih (j + 1) (by omega) (by omega)
      · simp only [q_rd, if_pos (show (0 : Int) ≤ (i : Int) by omega), if_pos (show ((i : Nat) : Int) < (l.length : Int) by omega), rdl, if_neg (show ¬ ((j : Nat) : Int) < ((l.getD i []).length : Int) by omega), wr64 (n := i) (by omega)]
        exact next
  have l0 : ∀ d i : Nat, l.length - i ≤ d → i ≤ l.length → Ev (fun k => culletlaw10_same.l0 k l l (i : Int)) true := by
    intro d
    induction d with
    | zero =>
      intro i h hi
      refine Ev.step (fun k => culletlaw10_same.l0.eq_2 _ _ _ k) ?_
      simp only [if_neg (show ¬ ((i : Nat) : Int) < (l.length : Int) by omega)]
      exact Ev.now _
    | succ d ih =>
      intro i h hi
      refine Ev.step (fun k => culletlaw10_same.l0.eq_2 _ _ _ k) ?_
      by_cases hlt : i < l.length
      · simp only [if_pos (show ((i : Nat) : Int) < (l.length : Int) by omega), if_pos (show (0 : Int) ≤ (i : Int) by omega), if_true]
        exact l1 i hlt (ih (i + 1) (by omega) (by omega)) _ 0 (Nat.le_refl _) (by omega)
      · simp only [if_neg (show ¬ ((i : Nat) : Int) < (l.length : Int) by omega)]
        exact Ev.now _
  unfold culletlaw10_same.f
  simp only [if_true]
  exact l0 l.length 0 (by omega) (by omega)
theorem Same_mt {m c : Nat} (hm : m < 2 ^ 62) (hc : c < 2 ^ 62) (A : Nat → Nat → G8) : Ev (fun k => culletlaw10_same.f k (mt m c A) (mt m c A)) true :=
  Same_self (by rw [mt_len]; exact hm) (fun x hx => by rw [mt_lens hx]; exact hc)
end Go.Proofs.Ytidogckochpbgaa.R
