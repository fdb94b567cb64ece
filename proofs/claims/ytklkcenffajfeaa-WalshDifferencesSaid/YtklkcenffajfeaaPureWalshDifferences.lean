/-
WalshDifferences: the locator at each index is, in the field, the product of the differences of its element to the lost ones' but its own; and Locator tells its logarithm.
-/
import Derived.Test.YtklkcenffajfeaaWalshFns
import Derived.Test.YtklkcenffajfeaaQx2
namespace Go.Proofs.Ytklkcenffajfeaa.Pure
open Go.RowKit Go.Proofs.Ytklkcenffajfeaa.A Go.Proofs.Ytklkcenffajfeaa.Q Go.Proofs.YtklkcenffajfeaaW.PrintWords Go.Proofs.YtklkcenffajfeaaW.PrintLast Go.Proofs.YtklkcenffajfeaaW.PrintMore Go.Proofs.Ytklkcenffajfeaa.R WH
set_option linter.unusedVariables false
set_option linter.unusedSimpArgs false
theorem shl_pow {r : Nat} (hr : r ≤ 16) : 0 ≤ IntKind.u64.wrap (r : Int) ∧ shl .i64 1 (IntKind.u64.wrap (r : Int)) = ((2 ^ r : Nat) : Int) := by
  have : ∀ r : Fin 17, 0 ≤ IntKind.u64.wrap (r.val : Int) ∧ shl .i64 1 (IntKind.u64.wrap (r.val : Int)) = ((2 ^ r.val : Nat) : Int) := by decide +kernel
  exact this ⟨r, by omega⟩
theorem md_loc (l : List Int) (r i : Nat) : 0 ≤ locL l r i ∧ locL l r i < 65535 := ⟨md_ge _, md_lt _⟩
theorem WalshDifferences : culletlaw15_WalshDifferences.Pure := by
  intro l r hl hb hw hr
  apply Ev.rounds
  have hlen : l.length ≤ 35184372088832 := by omega
  clear hl hw hr
  unfold culletlaw15_WalshDifferences.f
  refine Ev.bind Fixed15 ?_
  simp only [if_true]
  refine Ev.bind (CopiedInts15 l hlen) ?_
  by_cases hr : 0 ≤ r ∧ r ≤ 16
  rotate_left
  · have hL : walsh_locator.f l r = some ([], 7) := by unfold walsh_locator.f; rw [if_neg hr]
    have hL2 : walsh_Locator.f l r = some ([], 7) := hL
    have hP : walsh_Products.f l r = some ([], 7) := by unfold walsh_Products.f; rw [hL]; rfl
    simp only [hP, Option.bind_some]
    refine Ev.bind (CopiedInts15 l hlen) ?_
    simp only [hL2, Option.bind_some, if_true]
    have fin : Ev (fun k => culletlaw15_WalshDifferences.j0 k l r [] 7 [] true) true := by
      refine Ev.step (fun k => culletlaw15_WalshDifferences.j0.eq_2 _ _ _ _ _ _ k) ?_
      simp only [if_true, List.length_nil]
      exact Ev.now _
    by_cases h0 : r < 0
    · simp only [if_pos h0]; exact fin
    · simp only [if_neg h0, show decide (r > 16) = true from decide_eq_true (by omega)]; exact fin
  obtain ⟨r, rfl⟩ := Int.eq_ofNat_of_zero_le hr.1
  have hr16 : r ≤ 16 := by omega
  obtain ⟨hs0, hs⟩ := shl_pow hr16
  have h16 : 2 ^ r ≤ 65536 := Nat.pow_le_pow_right (by decide) hr16
  have hbad : losB (2 ^ r) l = false → walsh_locator.f l (r : Int) = some ([], 31) := fun e => by
    unfold walsh_locator.f
    rw [if_pos hr, Int.toNat_natCast, if_neg (by rw [e]; decide), if_pos (by omega)]
  obtain ⟨p, q, e, hP, hL, hgood, hno⟩ : ∃ p q e, walsh_Products.f l (r : Int) = some (p, e) ∧ walsh_Locator.f l (r : Int) = some (q, e) ∧
      (losB (2 ^ r) l = true → e = 0 ∧ p = lst (2 ^ r) (fun i => ((prodW l i l.length : Nat) : Int)) ∧ q = lst (2 ^ r) (locL l r)) ∧ (losB (2 ^ r) l = false → e = 31 ∧ p = [] ∧ q = []) := by
    cases hlo : losB (2 ^ r) l with
    | true =>
      have hll : l.length ≤ 65536 := Nat.le_trans (losB_len hlo) h16
      exact ⟨_, _, _, Products_yes hr16 hlo, locator_yes hr16 hlo hll, fun _ => ⟨rfl, rfl, rfl⟩, fun h => by simp at h⟩
    | false =>
      have := hbad hlo
      exact ⟨[], [], 31, by unfold walsh_Products.f; rw [this]; rfl, this, fun h => by simp at h, fun _ => ⟨rfl, rfl, rfl⟩⟩
  simp only [hP, Option.bind_some]
  refine Ev.bind (CopiedInts15 l hlen) ?_
  simp only [hL, Option.bind_some, if_true, if_neg (show ¬ ((r : Nat) : Int) < 0 by omega), show decide (((r : Nat) : Int) > 16) = false from decide_eq_false (by omega)]
  clear hP hL hbad
  refine Ev.step (fun k => culletlaw15_WalshDifferences.j0.eq_2 _ _ _ _ _ _ k) ?_
  simp only [Bool.false_eq_true, if_false]
  rw [show ((0 : Int)) = ((0 : Nat) : Int) from rfl]
  have main : losB (2 ^ r) l = true → Ev (fun k => culletlaw15_WalshDifferences.l0 k l (r : Int) p e q l (l.length : Int) ((l.length : Nat) : Int)) true := by
    intro hlo
    obtain ⟨rfl, rfl, rfl⟩ := hgood hlo
    have hll : l.length ≤ 65536 := Nat.le_trans (losB_len hlo) h16
    have hli := losB_iff.1 hlo
    refine Ev.step (fun k => culletlaw15_WalshDifferences.l0.eq_2 _ _ _ _ _ _ _ _ k) ?_
    simp only [if_neg (show ¬ ((l.length : Nat) : Int) < (l.length : Int) by omega), if_true, if_pos hs0, hs, lst_len, bne_self_eq_false]
    refine Ev.step (fun k => culletlaw15_WalshDifferences.j2.eq_2 _ _ _ _ k) ?_
    simp only [Bool.false_eq_true, if_false]
    have hx : gf16_Tables_Exp.f 1 = some 2 := by decide +kernel
    obtain ⟨_, hnew⟩ : ∃ u, gf16_New.f = some u := ⟨_, rfl⟩
    simp only [hnew, hx, Option.bind_some, if_true, lst_len]
    -- the elements
    have l1 : Ev (fun k => culletlaw15_WalshDifferences.l2 k l (lst (2 ^ r) (fun i => ((prodW l i l.length : Nat) : Int))) (lst (2 ^ r) (locL l r)) (lst (2 ^ r) (fun i => ((GP.wel i : Nat) : Int))) ((2 ^ r : Nat) : Int) 0) true → Ev (fun k => culletlaw15_WalshDifferences.l1 k l (lst (2 ^ r) (fun i => ((prodW l i l.length : Nat) : Int))) (lst (2 ^ r) (locL l r)) (lst 0 (fun i => ((GP.wel i : Nat) : Int))) ((2 ^ r : Nat) : Int) ((0 : Nat) : Int)) true := by
      intro next
      refine ev_loop (L := fun k i => culletlaw15_WalshDifferences.l1 k l (lst (2 ^ r) (fun i => ((prodW l i l.length : Nat) : Int))) (lst (2 ^ r) (locL l r)) (lst i (fun i => ((GP.wel i : Nat) : Int))) ((2 ^ r : Nat) : Int) ((i : Nat) : Int)) (n := 2 ^ r) ?_ ?_ 0 (Nat.zero_le _)
      · refine Ev.step (fun k => culletlaw15_WalshDifferences.l1.eq_2 _ _ _ _ _ _ k) ?_
        simp only [if_neg (show ¬ ((2 ^ r : Nat) : Int) < ((2 ^ r : Nat) : Int) by omega), lst_len]
        exact next
      · intro i hi nx
        refine Ev.step (fun k => culletlaw15_WalshDifferences.l1.eq_2 _ _ _ _ _ _ k) ?_
        simp only [if_pos (show ((i : Nat) : Int) < ((2 ^ r : Nat) : Int) by omega), R.Element (show i < 65536 by omega), Option.bind_some, if_true, lst_len, if_pos (show i < 70368744177664 by omega), wr64' (n := i) (by omega)]
        have e2 : lst i (fun i => ((GP.wel i : Nat) : Int)) ++ [((GP.wel i : Nat) : Int)] = lst (i + 1) (fun i => ((GP.wel i : Nat) : Int)) := by
          unfold lst; rw [List.range_succ, List.map_append]; rfl
        rw [e2]
        exact nx
    refine l1 ?_
    rw [show ((0 : Int)) = ((0 : Nat) : Int) from rfl]
    refine ev_loop (L := fun k i => culletlaw15_WalshDifferences.l2 k l (lst (2 ^ r) (fun i => ((prodW l i l.length : Nat) : Int))) (lst (2 ^ r) (locL l r)) (lst (2 ^ r) (fun i => ((GP.wel i : Nat) : Int))) ((2 ^ r : Nat) : Int) ((i : Nat) : Int)) (n := 2 ^ r) ?_ ?_ 0 (Nat.zero_le _)
    · refine Ev.step (fun k => culletlaw15_WalshDifferences.l2.eq_2 _ _ _ _ _ _ k) ?_
      simp only [if_neg (show ¬ ((2 ^ r : Nat) : Int) < ((2 ^ r : Nat) : Int) by omega)]
      exact Ev.now _
    · intro i hi nx
      have hi6 : i < 65536 := by omega
      refine Ev.step (fun k => culletlaw15_WalshDifferences.l2.eq_2 _ _ _ _ _ _ k) ?_
      simp only [if_pos (show ((i : Nat) : Int) < ((2 ^ r : Nat) : Int) by omega)]
      rw [show ((0 : Int)) = ((0 : Nat) : Int) from rfl, show ((1 : Int)) = ((prodW l i 0 : Nat) : Int) from rfl]
      refine ev_loop (L := fun k j => culletlaw15_WalshDifferences.l3 k l (lst (2 ^ r) (fun i => ((prodW l i l.length : Nat) : Int))) (lst (2 ^ r) (locL l r)) (lst (2 ^ r) (fun i => ((GP.wel i : Nat) : Int))) ((i : Nat) : Int) ((prodW l i j : Nat) : Int) ((2 ^ r : Nat) : Int) ((i : Nat) : Int) l (l.length : Int) ((j : Nat) : Int)) (n := l.length) ?_ ?_ 0 (Nat.zero_le _)
      · refine Ev.step (fun k => culletlaw15_WalshDifferences.l3.eq_2 _ _ _ _ _ _ _ _ _ _ _ k) ?_
        obtain ⟨m0, m1⟩ := md_loc l r i
        simp only [if_neg (show ¬ ((l.length : Nat) : Int) < (l.length : Int) by omega), if_pos (show (0 : Int) ≤ (i : Int) by omega), lst_len, if_pos (show ((i : Nat) : Int) < ((2 ^ r : Nat) : Int) by omega), rd_at, lst_getD hi, if_true, if_neg (show ¬ locL l r i = 65535 by omega)]
        rw [wrap64_id (by omega) (by omega), exp_ev, loc_prod hr16 hlo hi]
        simp only [Option.bind_some, if_true, wr64' (n := i) (by omega)]
        exact nx
      · intro j hj nx2
        obtain ⟨g1, g2, -⟩ := hli j hj
        obtain ⟨a, ha⟩ := Int.eq_ofNat_of_zero_le g1
        have hai : a < 2 ^ r := by omega
        refine Ev.step (fun k => culletlaw15_WalshDifferences.l3.eq_2 _ _ _ _ _ _ _ _ _ _ _ k) ?_
        have hsucc : prodW l i (j + 1) = if a = i then prodW l i j else m16 (prodW l i j) (GP.wel (i ^^^ a)) := by
          show (if (l.getD j 0).toNat = i then prodW l i j else m16 (prodW l i j) (GP.wel (i ^^^ (l.getD j 0).toNat))) = _
          rw [ha, Int.toNat_natCast]
        simp only [if_pos (show ((j : Nat) : Int) < (l.length : Int) by omega), if_pos (show (0 : Int) ≤ (j : Int) by omega), rd_at, ha, wr64' (n := j) (by omega)]
        by_cases e : a = i
        · rw [if_pos e] at hsucc
          rw [← hsucc]
          simp only [if_pos (show ((a : Nat) : Int) = (i : Int) by omega)]
          exact nx2
        · rw [if_neg e] at hsucc
          simp only [if_neg (show ¬ ((a : Nat) : Int) = (i : Int) by omega), if_pos (show (0 : Int) ≤ (i : Int) by omega), if_pos (show (0 : Int) ≤ (a : Int) by omega), lst_len, if_pos (show ((i : Nat) : Int) < ((2 ^ r : Nat) : Int) by omega), if_pos (show ((a : Nat) : Int) < ((2 ^ r : Nat) : Int) by omega), lst_getD hi, lst_getD hai]
          rw [bits_xor16 (GP.wel_lt i) (GP.wel_lt a), ← GP.wel_xor, TMul16 (prodW_lt _ _ _) (GP.wel_lt _)]
          simp only [Option.bind_some]
          rw [← hsucc]
          exact nx2
  cases hlo : losB (2 ^ r) l with
  | true =>
    have hli := losB_iff.1 hlo
    refine ev_loop (L := fun k i => culletlaw15_WalshDifferences.l0 k l (r : Int) p e q l (l.length : Int) ((i : Nat) : Int)) (n := l.length) (main hlo) ?_ 0 (Nat.zero_le _)
    intro i hi nx
    obtain ⟨g1, g2, g3⟩ := hli i hi
    refine Ev.step (fun k => culletlaw15_WalshDifferences.l0.eq_2 _ _ _ _ _ _ _ _ k) ?_
    simp only [if_pos (show ((i : Nat) : Int) < (l.length : Int) by omega), if_pos (show (0 : Int) ≤ (i : Int) by omega), rd_at, if_neg (show ¬ l.getD i 0 < 0 by omega), if_pos hs0, hs, if_neg (show ¬ l.getD i 0 ≥ ((2 ^ r : Nat) : Int) by omega), wr64' (n := i) (by omega)]
    by_cases h0 : ((i : Nat) : Int) > 0
    · have e1 : wrap64 ((i : Int) - 1) = ((i - 1 : Nat) : Int) := by rw [wrap64_id (by omega) (by omega)]; omega
      have g4 : l.getD (i - 1) 0 < l.getD i 0 := by rcases g3 with z | z; (· omega); (· exact z)
      simp only [if_pos h0, e1, if_pos (show (0 : Int) ≤ ((i - 1 : Nat) : Int) by omega), if_pos (show ((i - 1 : Nat) : Int) < (l.length : Int) by omega), rd_at, if_neg (show ¬ l.getD i 0 ≤ l.getD (i - 1) 0 by omega)]
      exact nx
    · simp only [if_neg h0]
      exact nx
  | false =>
    obtain ⟨rfl, rfl, rfl⟩ := hno hlo
    have hex : ∃ i, i < l.length ∧ ¬ (0 ≤ l.getD i 0 ∧ l.getD i 0 < ((2 ^ r : Nat) : Int) ∧ (i = 0 ∨ l.getD (i - 1) 0 < l.getD i 0)) := by
      apply Classical.byContradiction
      intro hn
      have : losB (2 ^ r) l = true := losB_iff.2 (fun i hi => Classical.byContradiction fun hc => hn ⟨i, hi, hc⟩)
      rw [this] at hlo; exact absurd hlo (by simp)
    obtain ⟨b, hb1, hb2⟩ := hex
    have go : ∀ d i : Nat, i + d = b → Ev (fun k => culletlaw15_WalshDifferences.l0 k l (r : Int) [] 31 [] l (l.length : Int) ((i : Nat) : Int)) true := by
      intro d
      induction d with
      | zero =>
        intro i hi
        rw [Nat.add_zero] at hi
        subst hi
        refine Ev.step (fun k => culletlaw15_WalshDifferences.l0.eq_2 _ _ _ _ _ _ _ _ k) ?_
        simp only [if_pos (show ((i : Nat) : Int) < (l.length : Int) by omega), if_pos (show (0 : Int) ≤ (i : Int) by omega), rd_at, if_pos hs0, hs, if_true, List.length_nil]
        by_cases c1 : l.getD i 0 < 0
        · simp only [if_pos c1]; exact Ev.now _
        · by_cases c2 : l.getD i 0 ≥ ((2 ^ r : Nat) : Int)
          · simp only [if_neg c1, if_pos c2]; exact Ev.now _
          · by_cases h0 : ((i : Nat) : Int) > 0
            · have e1 : wrap64 ((i : Int) - 1) = ((i - 1 : Nat) : Int) := by rw [wrap64_id (by omega) (by omega)]; omega
              have c3 : l.getD i 0 ≤ l.getD (i - 1) 0 := by
                apply Classical.byContradiction; intro hc
                exact hb2 ⟨by omega, by omega, .inr (by omega)⟩
              simp only [if_neg c1, if_neg c2, if_pos h0, e1, if_pos (show (0 : Int) ≤ ((i - 1 : Nat) : Int) by omega), if_pos (show ((i - 1 : Nat) : Int) < (l.length : Int) by omega), rd_at, if_pos c3]
              exact Ev.now _
            · exact absurd ⟨by omega, by omega, .inl (by omega)⟩ hb2
      | succ d ih =>
        intro i hi
        have nx := ih (i + 1) (by omega)
        refine Ev.step (fun k => culletlaw15_WalshDifferences.l0.eq_2 _ _ _ _ _ _ _ _ k) ?_
        simp only [if_pos (show ((i : Nat) : Int) < (l.length : Int) by omega), if_pos (show (0 : Int) ≤ (i : Int) by omega), rd_at, if_pos hs0, hs, if_true, List.length_nil, wr64' (n := i) (by omega)]
        by_cases c1 : l.getD i 0 < 0
        · simp only [if_pos c1]; exact Ev.now _
        · by_cases c2 : l.getD i 0 ≥ ((2 ^ r : Nat) : Int)
          · simp only [if_neg c1, if_pos c2]; exact Ev.now _
          · by_cases h0 : ((i : Nat) : Int) > 0
            · have e1 : wrap64 ((i : Int) - 1) = ((i - 1 : Nat) : Int) := by rw [wrap64_id (by omega) (by omega)]; omega
              simp only [if_neg c1, if_neg c2, if_pos h0, e1, if_pos (show (0 : Int) ≤ ((i - 1 : Nat) : Int) by omega), if_pos (show ((i - 1 : Nat) : Int) < (l.length : Int) by omega), rd_at]
              by_cases c3 : l.getD i 0 ≤ l.getD (i - 1) 0
              · simp only [if_pos c3]; exact Ev.now _
              · simp only [if_neg c3]; exact nx
            · simp only [if_neg c1, if_neg c2, if_neg h0]
              exact nx
    exact go b 0 (by omega)
end Go.Proofs.Ytklkcenffajfeaa.Pure
