/- What the theorems' own helpers of layer 10 compute: same, side, one. -/
import Derived.Test.YtidogckochpbgaaMatOps
import Derived.Test.YtidogckochpbgaaQx1
namespace Go.Proofs.Ytidogckochpbgaa.R
open Go.RowKit Go.Proofs.YtidogckochpbgaaW.PrintWords Go.Proofs.YtidogckochpbgaaW.PrintLast Go.Proofs.YtidogckochpbgaaW.PrintMore Go.Proofs.Ytidogckochpbgaa.A Go.Proofs.Ytidogckochpbgaa.Q GP
set_option linter.unusedVariables false
set_option linter.unusedSimpArgs false

theorem q_rd : @Q.rd_L1 = @A.rd_L1 := rfl
theorem mt_lens {m c : Nat} {A : Nat → Nat → G8} {x : List Int} (h : x ∈ mt m c A) : x.length = c := by
  obtain ⟨i, hi, rfl⟩ := List.mem_map.1 h
  exact rowOf_len _ _
theorem Side_any_l0 {l : List (List Int)} (h1 : 1 ≤ l.length) (h2 : l.length ≤ 256) : ∀ n i : Nat, l.length - i ≤ n → i ≤ l.length →
    Ev (fun k => culletlaw10_side.l0 k l (i : Int)) (if ∀ j, j < l.length → i ≤ j → (l.getD j []).length = wid l then (l.length : Int) else 0) := by
  intro n
  induction n with
  | zero =>
    intro i h hi
    refine Ev.step (fun k => culletlaw10_side.l0.eq_2 _ _ k) ?_
    simp only [if_neg (show ¬ ((i : Nat) : Int) < (l.length : Int) by omega)]
    rw [if_pos (fun j _ _ => by omega)]
    exact Ev.now _
  | succ n ih =>
    intro i h hi
    refine Ev.step (fun k => culletlaw10_side.l0.eq_2 _ _ k) ?_
    by_cases hlt : i < l.length
    · have r0 : A.rd_L1 l 0 = l.getD 0 [] := rdl (i := 0)
      simp only [q_rd, if_pos (show ((i : Nat) : Int) < (l.length : Int) by omega), if_pos (show (0 : Int) ≤ (i : Int) by omega), if_pos (show (0 : Int) < (l.length : Int) by omega), rdl, r0]
      by_cases e : (l.getD i []).length = wid l
      · have e' : ((l.getD i []).length : Int) = ((l.getD 0 []).length : Int) := by unfold wid at e; omega
        simp only [if_pos e', wr64 (n := i) (by omega)]
        have := ih (i + 1) (by omega) (by omega)
        have iff : (∀ j, j < l.length → i + 1 ≤ j → (l.getD j []).length = wid l) ↔ (∀ j, j < l.length → i ≤ j → (l.getD j []).length = wid l) :=
          ⟨fun h j hjl hj => by by_cases e1 : j = i; (· rw [e1]; exact e); (· exact h j hjl (by omega)), fun h j hjl hj => h j hjl (by omega)⟩
        simp only [iff] at this
        exact this
      · have e' : ¬ ((l.getD i []).length : Int) = ((l.getD 0 []).length : Int) := by unfold wid at e; omega
        simp only [if_neg e']
        rw [if_neg (fun h => e (h i hlt (Nat.le_refl _)))]
        exact Ev.now _
    · simp only [if_neg (show ¬ ((i : Nat) : Int) < (l.length : Int) by omega)]
      rw [if_pos (fun j _ _ => by omega)]
      exact Ev.now _
theorem Side_any (l : List (List Int)) : Ev (fun k => culletlaw10_side.f k l) (if chk l = true then (l.length : Int) else 0) := by
  have j : Ev (fun k => culletlaw10_side.j0 k l true) (0 : Int) := by
    refine Ev.step (fun k => culletlaw10_side.j0.eq_2 _ _ k) ?_
    simp only [if_true]
    exact Ev.now _
  have r0 : A.rd_L1 l 0 = l.getD 0 [] := rdl (i := 0)
  unfold culletlaw10_side.f
  simp only [q_rd]
  by_cases h1 : (l.length : Int) < 1
  · rw [if_neg (fun h => by have := (chk_iff.1 h).1; omega)]
    simp only [if_pos h1]; exact j
  simp only [if_neg h1]
  by_cases h2 : (l.length : Int) > 256
  · rw [if_neg (fun h => by have := (chk_iff.1 h).2.1; omega)]
    simp only [if_pos h2]; exact j
  simp only [q_rd, if_neg h2, if_pos (show (0 : Int) < (l.length : Int) by omega), r0]
  by_cases h3 : ((l.getD 0 []).length : Int) < 1
  · rw [if_neg (fun h => by have := (chk_iff.1 h).2.2.1; unfold wid at this; omega)]
    simp only [if_pos h3]; exact j
  simp only [if_neg h3]
  by_cases h4 : ((l.getD 0 []).length : Int) > 512
  · rw [if_neg (fun h => by have := (chk_iff.1 h).2.2.2.1; unfold wid at this; omega)]
    simp only [decide_eq_true h4]; exact j
  simp only [decide_eq_false h4]
  refine Ev.step (fun k => culletlaw10_side.j0.eq_2 _ _ k) ?_
  simp only [Bool.false_eq_true, if_false]
  have := Side_any_l0 (l := l) (by omega) (by omega) l.length 0 (by omega) (by omega)
  have iff : (∀ j, j < l.length → 0 ≤ j → (l.getD j []).length = wid l) ↔ chk l = true := by
    rw [chk_iff, all_from]
    unfold wid
    exact ⟨fun h => ⟨by omega, by omega, by omega, by omega, fun i hi => h i hi (Nat.zero_le _)⟩, fun h j hj _ => h.2.2.2.2 j hj⟩
  simp only [iff] at this
  exact this
end Go.Proofs.Ytidogckochpbgaa.R
