/-
MatrixMakes: every Check, Identity, Vandermonde and Cauchy is the document's. The bounds are those within which arguments can be handed in.
-/
import Derived.Test.YtidogckochpbgaaL3
import Derived.Test.YtidogckochpbgaaL4
import Derived.Test.YtidogckochpbgaaQx5
namespace Go.Proofs.Ytidogckochpbgaa.Pure
open Go.RowKit Go.Proofs.Ytidogckochpbgaa.A Go.Proofs.Ytidogckochpbgaa.Q Go.Proofs.YtidogckochpbgaaW.PrintWords Go.Proofs.YtidogckochpbgaaW.PrintLast Go.Proofs.YtidogckochpbgaaW.PrintMore Go.Proofs.Ytidogckochpbgaa.R GP
set_option linter.unusedVariables false
set_option linter.unusedSimpArgs false
/-- What can be handed in as a matrix. -/
abbrev okM : List (List Int) → Prop := fun l => l.length * 24 ≤ 140737488351232 ∧ ∀ x ∈ l, (fun l : List Int => l.length * 1 ≤ 140737488351232 ∧ ∀ x ∈ l, (fun x : Int => (Lit.int .u8 x).wf = true) x) x
theorem cells_ev {l : List (List Int)} (h : okM l) : ∃ n : Int, Ev (fun k => culletlaw10_cells.f k l) n := by
  have hl := h.1
  have hx : ∀ i : Nat, i < l.length → (l.getD i []).length ≤ 140737488351232 := fun i hi => by
    rw [List.getD_eq_getElem?_getD, List.getElem?_eq_getElem hi]
    have := (h.2 _ (List.getElem_mem hi)).1
    simpa using this
  have go : ∀ d i : Nat, ∀ s : Int, l.length - i ≤ d → i ≤ l.length → 0 ≤ s → s ≤ 1048576 → ∃ n : Int, Ev (fun k => culletlaw10_cells.l0 k l s (i : Int)) n := by
    intro d
    induction d with
    | zero =>
      intro i s h1 h2 h3 h4
      refine ⟨s, Ev.step (fun k => culletlaw10_cells.l0.eq_2 _ _ _ k) ?_⟩
      simp only [if_neg (show ¬ ((i : Nat) : Int) < (l.length : Int) by omega)]
      exact Ev.now _
    | succ d ih =>
      intro i s h1 h2 h3 h4
      by_cases hlt : i < l.length
      · have hw : wrap64 (s + ((l.getD i []).length : Int)) = s + ((l.getD i []).length : Int) := by
          have := hx i hlt
          exact wrap64_id (by omega) (by omega)
        have hr : A.rd_L1 l (i : Int) = l.getD i [] := rdl (i := i)
        by_cases hb : s + ((l.getD i []).length : Int) > 1048576
        · refine ⟨1048576, Ev.step (fun k => culletlaw10_cells.l0.eq_2 _ _ _ k) ?_⟩
          simp only [q_rd, if_pos (show ((i : Nat) : Int) < (l.length : Int) by omega), if_pos (show (0 : Int) ≤ (i : Int) by omega), hr, hw, if_pos hb]
          exact Ev.now _
        · obtain ⟨n, hn⟩ := ih (i + 1) (s + ((l.getD i []).length : Int)) (by omega) (by omega) (by omega) (by omega)
          refine ⟨n, Ev.step (fun k => culletlaw10_cells.l0.eq_2 _ _ _ k) ?_⟩
          simp only [q_rd, if_pos (show ((i : Nat) : Int) < (l.length : Int) by omega), if_pos (show (0 : Int) ≤ (i : Int) by omega), hr, hw, if_neg hb, wr64 (n := i) (by omega)]
          exact hn
      · refine ⟨s, Ev.step (fun k => culletlaw10_cells.l0.eq_2 _ _ _ k) ?_⟩
        simp only [if_neg (show ¬ ((i : Nat) : Int) < (l.length : Int) by omega)]
        exact Ev.now _
  exact go l.length 0 0 (by omega) (by omega) (by omega) (by omega)
theorem huge_ev {a b : List (List Int)} (ha : okM a) (hb : okM b) (f0 f3 f4 f5 f6 : Int) (f7 : List Int) : ∃ h : Bool, Ev (fun k => culletlaw10_huge.f k f0 a b f3 f4 f5 f6 f7) h := by
  obtain ⟨n, hn⟩ := cells_ev ha
  obtain ⟨m, hm⟩ := cells_ev hb
  unfold culletlaw10_huge.f
  by_cases h : n ≥ 1048576
  · refine ⟨true, Ev.bind hn ?_⟩
    simp only [if_pos h]
    exact Ev.now _
  · refine ⟨decide (m ≥ 1048576), Ev.bind hn ?_⟩
    simp only [if_neg h]
    exact Ev.bind hm (Ev.now _)
theorem twin_ok {l : List (List Int)} (h : okM l) : culletlaw10_twin.f l = some l := by
  unfold culletlaw10_twin.f
  have h2 : (l.all fun x => decide (x.length ≤ 140737488351232)) = true := by
    rw [List.all_eq_true]
    intro x hx
    have := (h.2 x hx).1
    exact decide_eq_true (by omega)
  have h1 := h.1
  rw [if_pos ⟨by omega, h2⟩]
theorem same_mat {m c : Nat} (hm : m < 2 ^ 62) (hc : c < 2 ^ 62) (g : Nat → Nat → Nat) : Ev (fun k => culletlaw10_same.f k (mat m c g) (mat m c g)) true :=
  Same_self (by rw [mat_len]; exact hm) (fun x hx => by
    obtain ⟨i, -, rfl⟩ := List.mem_map.1 hx
    rw [rowOf_len]; exact hc)
theorem same_nil : Ev (fun k => culletlaw10_same.f k [] []) true := Same_self (by decide) (fun x hx => by cases hx)
theorem makes_ev {a b : List (List Int)} (ha : okM a) (f0 f3 f4 f5 f6 : Int) (f7 : List Int) : Ev (fun k => culletlaw10_makes.f k f0 a b f3 f4 f5 f6 f7) true := by
  unfold culletlaw10_makes.f
  by_cases h1 : f0 = 1
  · simp only [if_pos h1, twin_ok ha, Option.bind_some]
    refine Ev.bind (Check_any a) ?_
    refine Ev.bind (RCheck_any a) ?_
    simp only [beq_self_eq_true]
    exact Ev.now _
  simp only [if_neg h1]
  by_cases h2 : f0 = 2
  · simp only [if_pos h2]
    by_cases h : f3 < 1 ∨ f3 > 256
    · refine Ev.bind (Ident_no h) ?_
      refine Ev.bind (RIdent_no h) ?_
      simp only [if_true]
      exact Ev.bind same_nil (Ev.now _)
    · obtain ⟨n, rfl⟩ := Int.eq_ofNat_of_zero_le (show 0 ≤ f3 by omega)
      refine Ev.bind (Ident (n := n) (by omega) (by omega)) ?_
      refine Ev.bind (RIdent (n := n) (by omega) (by omega)) ?_
      simp only [if_true]
      exact Ev.bind (Same_mt (by omega) (by omega) _) (Ev.now _)
  simp only [if_neg h2]
  by_cases h3 : f0 = 3
  · simp only [if_pos h3]
    by_cases h : f3 < 1 ∨ f3 > 256 ∨ f4 < 1 ∨ f4 > 512
    · refine Ev.bind (Vandermonde_no h) ?_
      refine Ev.bind (RVdm_no h) ?_
      simp only [if_true]
      exact Ev.bind same_nil (Ev.now _)
    · obtain ⟨n, rfl⟩ := Int.eq_ofNat_of_zero_le (show 0 ≤ f3 by omega)
      obtain ⟨m, rfl⟩ := Int.eq_ofNat_of_zero_le (show 0 ≤ f4 by omega)
      refine Ev.bind (Vandermonde (r := n) (c := m) (by omega) (by omega) (by omega) (by omega)) ?_
      refine Ev.bind (RVdm (r := n) (c := m) (by omega) (by omega) (by omega) (by omega)) ?_
      simp only [if_true]
      exact Ev.bind (same_mat (by omega) (by omega) _) (Ev.now _)
  simp only [if_neg h3]
  by_cases h : f3 < 1 ∨ f3 > 256 ∨ f4 < 1 ∨ f4 > 256 ∨ f3 + f4 > 256
  · refine Ev.bind (Cauchy_no h) ?_
    refine Ev.bind (RCau_no h) ?_
    simp only [if_true]
    exact Ev.bind same_nil (Ev.now _)
  · obtain ⟨n, rfl⟩ := Int.eq_ofNat_of_zero_le (show 0 ≤ f3 by omega)
    obtain ⟨m, rfl⟩ := Int.eq_ofNat_of_zero_le (show 0 ≤ f4 by omega)
    refine Ev.bind (Cauchy_mat (r := n) (c := m) (by omega) (by omega) (by omega)) ?_
    refine Ev.bind (RCau (r := n) (c := m) (by omega) (by omega) (by omega)) ?_
    simp only [if_true]
    exact Ev.bind (same_mat (by omega) (by omega) _) (Ev.now _)
theorem MatrixMakes : culletlaw10_MatrixMakes.Pure := by
  intro l hok
  apply Ev.rounds
  unfold culletlaw10_MatrixMakes.f
  refine Ev.bind Awake ?_
  simp only [if_true]
  suffices h : Ev (fun k => culletlaw10_all.f k l 1 4) true from Ev.bind h (Ev.now _)
  unfold culletlaw10_all.f
  have hl := hok.1
  have go : ∀ d i : Nat, l.length - i ≤ d → i ≤ l.length → Ev (fun k => culletlaw10_all.l0 k 1 4 l (l.length : Int) (i : Int)) true := by
    intro d
    induction d with
    | zero =>
      intro i h1 h2
      refine Ev.step (fun k => culletlaw10_all.l0.eq_2 _ _ _ _ _ k) ?_
      simp only [if_neg (show ¬ ((i : Nat) : Int) < (l.length : Int) by omega)]
      exact Ev.now _
    | succ d ih =>
      intro i h1 h2
      by_cases hlt : i < l.length
      · have next := ih (i + 1) (by omega) (by omega)
        obtain ⟨o, ho⟩ : ∃ o, rd_T57 l (i : Int) = o := ⟨_, rfl⟩
        have hoo : okT57 o := by
          have : rd_T57 l (i : Int) = l[i] := by unfold rd_T57; rw [Int.toNat_natCast, List.getD_eq_getElem?_getD, List.getElem?_eq_getElem hlt]; rfl
          rw [← ho, this]
          exact hok.2 _ (List.getElem_mem hlt)
        refine Ev.step (fun k => culletlaw10_all.l0.eq_2 _ _ _ _ _ k) ?_
        simp only [if_pos (show ((i : Nat) : Int) < (l.length : Int) by omega), if_pos (show (0 : Int) ≤ (i : Int) by omega), ho]
        have skip : Ev (fun k => culletlaw10_all.j1 k 1 4 l (l.length : Int) (i : Int) true o.f0 o.f1 o.f2 o.f3 o.f4 o.f5 o.f6 o.f7) true := by
          refine Ev.step (fun k => culletlaw10_all.j1.eq_2 _ _ _ _ _ _ _ _ _ _ _ _ _ _ k) ?_
          simp only [if_true, wr64 (n := i) (by omega)]
          exact next
        by_cases hk1 : o.f0 < 1
        · simp only [if_pos hk1]; exact skip
        simp only [if_neg hk1]
        by_cases hk2 : o.f0 > 4
        · simp only [if_pos hk2]; exact skip
        simp only [if_neg hk2]
        obtain ⟨b, hb⟩ := huge_ev hoo.2.1 hoo.2.2.1 o.f0 o.f3 o.f4 o.f5 o.f6 o.f7
        refine Ev.bind hb ?_
        cases b with
        | true => exact skip
        | false =>
          refine Ev.step (fun k => culletlaw10_all.j1.eq_2 _ _ _ _ _ _ _ _ _ _ _ _ _ _ k) ?_
          simp only [Bool.false_eq_true, if_false, if_pos (show o.f0 ≤ 4 by omega)]
          refine Ev.bind (makes_ev hoo.2.1 o.f0 o.f3 o.f4 o.f5 o.f6 o.f7) ?_
          simp only [if_true, wr64 (n := i) (by omega)]
          exact next
      · refine Ev.step (fun k => culletlaw10_all.l0.eq_2 _ _ _ _ _ k) ?_
        simp only [if_neg (show ¬ ((i : Nat) : Int) < (l.length : Int) by omega)]
        exact Ev.now _
  exact go l.length 0 (by omega) (by omega)
end Go.Proofs.Ytidogckochpbgaa.Pure
