/- huge, twin and same of layer 10's theorems, for the scripts. -/
import Derived.Test.YtidogckochpbgaaLawMat
import Derived.Test.YtidogckochpbgaaH5
import Derived.Test.YtidogckochpbgaaQx2

namespace Go.Proofs.Ytidogckochpbgaa.Pure
open Go.RowKit Go.Proofs.Ytidogckochpbgaa.A Go.Proofs.Ytidogckochpbgaa.Q Go.Proofs.YtidogckochpbgaaW.PrintWords Go.Proofs.YtidogckochpbgaaW.PrintLast Go.Proofs.YtidogckochpbgaaW.PrintMore Go.Proofs.Ytidogckochpbgaa.R GP
set_option linter.unusedVariables false
set_option linter.unusedSimpArgs false
/-- What can be handed in as a matrix. -/
abbrev okM : List (List Int) → Prop := fun l => l.length * 24 ≤ 140737488351232 ∧ ∀ x ∈ l, (fun l : List Int => l.length * 1 ≤ 140737488351232 ∧ ∀ x ∈ l, (fun x : Int => (Lit.int .u8 x).wf = true) x) x
theorem cells_ev {l : List (List Int)} (h : okM l) : ∃ n : Int, Ev (fun k => culletlaw10_cells.f k l) n := by
  have hl := h.1
  have hx : ∀ i : Nat, i < l.length → (l.getD i []).length ≤ 140737488351232 := fun i hi => by
    rw [List.getD_eq_getElem?_getD, List.getElem?_eq_getElem hi]
    have := (h.2 _ (List.getElem_mem hi)).1
    simpa using this
  have go : ∀ d i : Nat, ∀ s : Int, l.length - i ≤ d → i ≤ l.length → 0 ≤ s → s ≤ 1048576 → ∃ n : Int, Ev (fun k => culletlaw10_cells.l0 k l s (i : Int)) n := by
    intro d
    induction d with
    | zero =>
      intro i s h1 h2 h3 h4
      refine ⟨s, Ev.step (fun k => culletlaw10_cells.l0.eq_2 _ _ _ k) ?_⟩
      simp only [if_neg (show ¬ ((i : Nat) : Int) < (l.length : Int) by omega)]
      exact Ev.now _
    | succ d ih =>
      intro i s h1 h2 h3 h4
      by_cases hlt : i < l.length
      · have hw : wrap64 (s + ((l.getD i []).length : Int)) = s + ((l.getD i []).length : Int) := by
          have := hx i hlt
          exact wrap64_id (by omega) (by omega)
        have hr : A.rd_L1 l (i : Int) = l.getD i [] := rdl (i := i)
        by_cases hb : s + ((l.getD i []).length : Int) > 1048576
        · refine ⟨1048576, Ev.step (fun k => culletlaw10_cells.l0.eq_2 _ _ _ k) ?_⟩
          simp only [q_rd, if_pos (show ((i : Nat) : Int) < (l.length : Int) by omega), if_pos (show (0 : Int) ≤ (i : Int) by omega), hr, hw, if_pos hb]
          exact Ev.now _
        · obtain ⟨n, hn⟩ := ih (i + 1) (s + ((l.getD i []).length : Int)) (by omega) (by omega) (by omega) (by omega)
          refine ⟨n, Ev.step (fun k => culletlaw10_cells.l0.eq_2 _ _ _ k) ?_⟩
          simp only [q_rd, if_pos (show ((i : Nat) : Int) < (l.length : Int) by omega), if_pos (show (0 : Int) ≤ (i : Int) by omega), hr, hw, if_neg hb, wr64 (n := i) (by omega)]
          exact hn
      · refine ⟨s, Ev.step (fun k => culletlaw10_cells.l0.eq_2 _ _ _ k) ?_⟩
        simp only [if_neg (show ¬ ((i : Nat) : Int) < (l.length : Int) by omega)]
        exact Ev.now _
  exact go l.length 0 0 (by omega) (by omega) (by omega) (by omega)
theorem huge_ev {a b : List (List Int)} (ha : okM a) (hb : okM b) (f0 f3 f4 f5 f6 : Int) (f7 : List Int) : ∃ h : Bool, Ev (fun k => culletlaw10_huge.f k f0 a b f3 f4 f5 f6 f7) h := by
  obtain ⟨n, hn⟩ := cells_ev ha
  obtain ⟨m, hm⟩ := cells_ev hb
  unfold culletlaw10_huge.f
  by_cases h : n ≥ 1048576
  · refine ⟨true, Ev.bind hn ?_⟩
    simp only [if_pos h]
    exact Ev.now _
  · refine ⟨decide (m ≥ 1048576), Ev.bind hn ?_⟩
    simp only [if_neg h]
    exact Ev.bind hm (Ev.now _)
theorem twin_ok {l : List (List Int)} (h : okM l) : culletlaw10_twin.f l = some l := by
  unfold culletlaw10_twin.f
  have h2 : (l.all fun x => decide (x.length ≤ 140737488351232)) = true := by
    rw [List.all_eq_true]
    intro x hx
    have := (h.2 x hx).1
    exact decide_eq_true (by omega)
  have h1 := h.1
  rw [if_pos ⟨by omega, h2⟩]
theorem same_nil : Ev (fun k => culletlaw10_same.f k [] []) true := Same_self (by decide) (fun x hx => by cases hx)
end Go.Proofs.Ytidogckochpbgaa.Pure
