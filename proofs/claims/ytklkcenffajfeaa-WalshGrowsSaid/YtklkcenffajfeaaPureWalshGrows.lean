/-
WalshGrows: one more lost index multiplies the locator at every other place by the difference to it; and of all lost indices together it is 1 everywhere.
-/
import Derived.Test.YtklkcenffajfeaaWalshFns
import Derived.Test.YtklkcenffajfeaaWalshGrow
import Derived.Test.YtklkcenffajfeaaQx2
namespace Go.Proofs.Ytklkcenffajfeaa.Pure
open Go.RowKit Go.Proofs.Ytklkcenffajfeaa.A Go.Proofs.Ytklkcenffajfeaa.Q Go.Proofs.YtklkcenffajfeaaW.PrintWords Go.Proofs.YtklkcenffajfeaaW.PrintLast Go.Proofs.YtklkcenffajfeaaW.PrintMore Go.Proofs.Ytklkcenffajfeaa.R WH
set_option linter.unusedVariables false
set_option linter.unusedSimpArgs false
theorem shl_pow' {r : Nat} (hr : r ≤ 16) : 0 ≤ IntKind.u64.wrap (r : Int) ∧ shl .i64 1 (IntKind.u64.wrap (r : Int)) = ((2 ^ r : Nat) : Int) := by
  have : ∀ r : Fin 17, 0 ≤ IntKind.u64.wrap (r.val : Int) ∧ shl .i64 1 (IntKind.u64.wrap (r.val : Int)) = ((2 ^ r.val : Nat) : Int) := by decide +kernel
  exact this ⟨r, by omega⟩
theorem wide_step (l : List Int) (m : Int) (k : Nat) : wide l m (k + 1) = (if l.getD k 0 > m ∧ (k = 0 ∨ l.getD (k - 1) 0 < m) then wide l m k ++ [m] else wide l m k) ++ [l.getD k 0] := rfl
theorem WalshGrows : culletlaw15_WalshGrows.Pure := by
  intro l r m hl hb hw hr hm
  apply Ev.rounds
  have hlen : l.length ≤ 35184372088832 := by omega
  clear hl hw hr hm
  unfold culletlaw15_WalshGrows.f
  refine Ev.bind Fixed15 ?_
  simp only [if_true]
  have out : Ev (fun k => culletlaw15_WalshGrows.j0 k l r m true) true := by
    refine Ev.step (fun k => culletlaw15_WalshGrows.j0.eq_2 _ _ _ _ k) ?_
    simp only [if_true]
    exact Ev.now _
  by_cases h1 : r < 0
  · simp only [if_pos h1]; exact out
  by_cases h2 : r > 16
  · simp only [if_neg h1, if_pos h2]; exact out
  by_cases h3 : m < 0
  · simp only [if_neg h1, if_neg h2, if_pos h3]; exact out
  obtain ⟨r, rfl⟩ := Int.eq_ofNat_of_zero_le (show 0 ≤ r by omega)
  have hr16 : r ≤ 16 := by omega
  have hr : (0 : Int) ≤ (r : Int) ∧ (r : Int) ≤ 16 := by omega
  obtain ⟨hs0, hs⟩ := shl_pow' hr16
  have h16 : 2 ^ r ≤ 65536 := Nat.pow_le_pow_right (by decide) hr16
  simp only [if_neg h1, if_neg h2, if_neg h3, if_pos hs0, hs]
  by_cases h4 : m ≥ ((2 ^ r : Nat) : Int)
  · simp only [decide_eq_true h4]; exact out
  simp only [decide_eq_false h4]
  clear out h1 h2
  obtain ⟨a, rfl⟩ := Int.eq_ofNat_of_zero_le (show 0 ≤ m by omega)
  have ha : a < 2 ^ r := by omega
  refine Ev.step (fun k => culletlaw15_WalshGrows.j0.eq_2 _ _ _ _ k) ?_
  simp only [Bool.false_eq_true, if_false]
  refine Ev.bind (CopiedInts15 l hlen) ?_
  cases hlo : losB (2 ^ r) l with
  | false =>
    have hL : walsh_locator.f l (r : Int) = some ([], 31) := by
      unfold walsh_locator.f
      rw [if_pos hr, Int.toNat_natCast, if_neg (by rw [hlo]; decide), if_pos (by omega)]
    have hP : walsh_Products.f l (r : Int) = some ([], 31) := by unfold walsh_Products.f; rw [hL]; rfl
    simp only [hP, Option.bind_some]
    exact Ev.now _
  | true =>
  simp only [Products_yes hr16 hlo, Option.bind_some, if_true]
  have hll : l.length ≤ 65536 := Nat.le_trans (losB_len hlo) h16
  obtain ⟨p, hp⟩ : ∃ p, p = lst (2 ^ r) (fun i => ((prodW l i l.length : Nat) : Int)) := ⟨_, rfl⟩
  rw [← hp]
  have hpl : p.length = 2 ^ r := by rw [hp, lst_len]
  by_cases hin : ∃ i, i < l.length ∧ l.getD i 0 = (a : Int)
  · obtain ⟨b, hb1, hb2⟩ := hin
    have go : ∀ d i : Nat, i + d = b → ∀ x : List Int, x.length ≤ 2 * i → Ev (fun k => culletlaw15_WalshGrows.l0 k l (r : Int) (a : Int) p x l (l.length : Int) ((i : Nat) : Int)) true := by
      intro d
      induction d with
      | zero =>
        intro i hi x hx
        rw [Nat.add_zero] at hi
        subst hi
        refine Ev.step (fun k => culletlaw15_WalshGrows.l0.eq_2 _ _ _ _ _ _ _ _ k) ?_
        simp only [if_pos (show ((i : Nat) : Int) < (l.length : Int) by omega), if_pos (show (0 : Int) ≤ (i : Int) by omega), rd_at, if_pos hb2]
        exact Ev.now _
      | succ d ih =>
        intro i hi x hx
        refine Ev.step (fun k => culletlaw15_WalshGrows.l0.eq_2 _ _ _ _ _ _ _ _ k) ?_
        simp only [if_pos (show ((i : Nat) : Int) < (l.length : Int) by omega), if_pos (show (0 : Int) ≤ (i : Int) by omega), rd_at, wr64' (n := i) (by omega)]
        by_cases c1 : l.getD i 0 = (a : Int)
        · simp only [if_pos c1]; exact Ev.now _
        simp only [if_neg c1]
        have n1 := ih (i + 1) (by omega) (x ++ [l.getD i 0]) (by rw [List.length_append]; simp; omega)
        have n2 := ih (i + 1) (by omega) ((x ++ [(a : Int)]) ++ [l.getD i 0]) (by rw [List.length_append, List.length_append]; simp; omega)
        have hx1 : x.length < 17592186044416 := by omega
        have hx2 : (x ++ [(a : Int)]).length < 17592186044416 := by rw [List.length_append]; simp; omega
        by_cases c2 : l.getD i 0 > (a : Int)
        · by_cases h0 : ((i : Nat) : Int) = 0
          · simp only [if_pos c2, if_pos h0, if_pos hx1, Option.bind_some, if_pos hx2]; exact n2
          · have e1 : wrap64 ((i : Int) - 1) = ((i - 1 : Nat) : Int) := by rw [wrap64_id (by omega) (by omega)]; omega
            simp only [if_pos c2, if_neg h0, e1, if_pos (show (0 : Int) ≤ ((i - 1 : Nat) : Int) by omega), if_pos (show ((i - 1 : Nat) : Int) < (l.length : Int) by omega), rd_at]
            by_cases c3 : l.getD (i - 1) 0 < (a : Int)
            · simp only [if_pos c3, if_pos hx1, Option.bind_some, if_pos hx2]; exact n2
            · simp only [if_neg c3, if_pos hx1]; exact n1
        · simp only [if_neg c2, if_pos hx1]; exact n1
    exact go b 0 (by omega) [] (by simp)
  have hne : ∀ i, i < l.length → l.getD i 0 ≠ (a : Int) := fun i hi e => hin ⟨i, hi, e⟩
  have hW := widest_los hlo (show (0 : Int) ≤ (a : Int) by omega) (by omega) hne
  have hWp := fun i => widest_prod hlo (show (0 : Int) ≤ (a : Int) by omega) (by omega) hne i
  -- all indices
  have tail : Ev (fun k => culletlaw15_WalshGrows.l2 k (r : Int) p [] (p.length : Int) 0) true := by
    rw [hpl]
    refine ev_loop (L := fun k i => culletlaw15_WalshGrows.l2 k (r : Int) p (upto i) ((2 ^ r : Nat) : Int) ((i : Nat) : Int)) (n := 2 ^ r) ?_ ?_ 0 (Nat.zero_le _)
    · refine Ev.step (fun k => culletlaw15_WalshGrows.l2.eq_2 _ _ _ _ _ k) ?_
      have hul : (upto (2 ^ r)).length = 2 ^ r := lst_len _ _
      simp only [if_neg (show ¬ ((2 ^ r : Nat) : Int) < ((2 ^ r : Nat) : Int) by omega), Products_yes hr16 (upto_los (2 ^ r)), Option.bind_some, if_true, lst_len, hpl, bne_self_eq_false, hul]
      refine Ev.step (fun k => culletlaw15_WalshGrows.j7.eq_2 _ _ k) ?_
      simp only [Bool.false_eq_true, if_false, lst_len]
      refine ev_loop (L := fun k i => culletlaw15_WalshGrows.l3 k (lst (2 ^ r) (fun i => ((prodW (upto (2 ^ r)) i (2 ^ r) : Nat) : Int))) ((2 ^ r : Nat) : Int) ((i : Nat) : Int)) (n := 2 ^ r) ?_ ?_ 0 (Nat.zero_le _)
      · refine Ev.step (fun k => culletlaw15_WalshGrows.l3.eq_2 _ _ _ k) ?_
        simp only [if_neg (show ¬ ((2 ^ r : Nat) : Int) < ((2 ^ r : Nat) : Int) by omega)]
        exact Ev.now _
      · intro i hi nx
        refine Ev.step (fun k => culletlaw15_WalshGrows.l3.eq_2 _ _ _ k) ?_
        simp only [if_pos (show ((i : Nat) : Int) < ((2 ^ r : Nat) : Int) by omega), if_pos (show (0 : Int) ≤ (i : Int) by omega), lst_len, rd_at, lst_getD hi, prodW_every hr16 hi, wr64' (n := i) (by omega)]
        exact nx
    · intro i hi nx
      refine Ev.step (fun k => culletlaw15_WalshGrows.l2.eq_2 _ _ _ _ _ k) ?_
      have hul : (upto i).length = i := lst_len _ _
      have e2 : upto i ++ [((i : Nat) : Int)] = upto (i + 1) := by unfold upto lst; rw [List.range_succ, List.map_append]; rfl
      simp only [if_pos (show ((i : Nat) : Int) < ((2 ^ r : Nat) : Int) by omega), hul, if_pos (show i < 17592186044416 by omega), e2, wr64' (n := i) (by omega)]
      exact nx
  -- one more
  have rest : Ev (fun k => culletlaw15_WalshGrows.j3 k (r : Int) (a : Int) p (widest l (a : Int))) true := by
    refine Ev.step (fun k => culletlaw15_WalshGrows.j3.eq_2 _ _ _ _ k) ?_
    simp only [Products_yes hr16 hW, Option.bind_some, if_true, if_pos hs0, hs, hpl, lst_len, bne_self_eq_false]
    refine Ev.step (fun k => culletlaw15_WalshGrows.j4.eq_2 _ _ _ _ _ k) ?_
    simp only [Bool.false_eq_true, if_false, R.Element (show a < 65536 by omega), Option.bind_some, hpl]
    refine ev_loop (L := fun k i => culletlaw15_WalshGrows.l1 k (r : Int) (a : Int) p (lst (2 ^ r) (fun i => ((prodW (widest l (a : Int)) i (widest l (a : Int)).length : Nat) : Int))) ((GP.wel a : Nat) : Int) ((2 ^ r : Nat) : Int) ((i : Nat) : Int)) (n := 2 ^ r) ?_ ?_ 0 (Nat.zero_le _)
    · refine Ev.step (fun k => culletlaw15_WalshGrows.l1.eq_2 _ _ _ _ _ _ _ k) ?_
      simp only [if_neg (show ¬ ((2 ^ r : Nat) : Int) < ((2 ^ r : Nat) : Int) by omega)]
      exact tail
    · intro i hi nx
      refine Ev.step (fun k => culletlaw15_WalshGrows.l1.eq_2 _ _ _ _ _ _ _ k) ?_
      have hpi : p.getD i 0 = ((pL i l : Nat) : Int) := by rw [hp, lst_getD hi, prodW_all]
      have hWi := hWp i
      simp only [prodW_all] at nx
      simp only [if_pos (show ((i : Nat) : Int) < ((2 ^ r : Nat) : Int) by omega), if_pos (show (0 : Int) ≤ (i : Int) by omega), hpl, lst_len, rd_at, lst_getD hi, hpi, prodW_all, hWi, wr64' (n := i) (by omega)]
      by_cases e : i = a
      · have hf : fac i (a : Int) = 1 := by unfold fac; rw [Int.toNat_natCast, if_pos e.symm]
        simp only [if_pos (show ((i : Nat) : Int) = (a : Int) by omega), hf, m16_one (pL_lt _ _), if_true]
        exact nx
      · have hf : fac i (a : Int) = GP.wel (i ^^^ a) := by unfold fac; rw [Int.toNat_natCast, if_neg (fun h => e h.symm)]
        simp only [if_neg (show ¬ ((i : Nat) : Int) = (a : Int) by omega), R.Element (show i < 65536 by omega), Option.bind_some, bits_xor16 (GP.wel_lt i) (GP.wel_lt a), ← GP.wel_xor, hf]
        refine Ev.bind (Mul16 (pL_lt _ _) (GP.wel_lt _)) ?_
        simp only [if_true]
        exact nx
  have hwl : ∀ i, i ≤ l.length → (wide l (a : Int) i).length ≤ 65536 := fun i hi => Nat.le_trans (losB_len (wide_los hlo (show (0 : Int) ≤ (a : Int) by omega) (by omega) hne i hi).1) h16
  refine ev_loop (L := fun k i => culletlaw15_WalshGrows.l0 k l (r : Int) (a : Int) p (wide l (a : Int) i) l (l.length : Int) ((i : Nat) : Int)) (n := l.length) ?_ ?_ 0 (Nat.zero_le _)
  · refine Ev.step (fun k => culletlaw15_WalshGrows.l0.eq_2 _ _ _ _ _ _ _ _ k) ?_
    have hl1 := hwl l.length (Nat.le_refl _)
    simp only [if_neg (show ¬ ((l.length : Nat) : Int) < (l.length : Int) by omega)]
    have yes : (l.length = 0 ∨ l.getD (l.length - 1) 0 < (a : Int)) → Ev (fun k => culletlaw15_WalshGrows.j2 k (r : Int) (a : Int) p (wide l (a : Int) l.length) true) true := fun hc => by
      refine Ev.step (fun k => culletlaw15_WalshGrows.j2.eq_2 _ _ _ _ _ k) ?_
      simp only [if_true, if_pos (show (wide l (a : Int) l.length).length < 17592186044416 by omega)]
      have : wide l (a : Int) l.length ++ [(a : Int)] = widest l (a : Int) := by unfold widest; rw [if_pos hc]
      rw [this]
      exact rest
    by_cases h0 : (l.length : Int) = 0
    · simp only [if_pos h0]
      exact yes (.inl (by omega))
    · have e1 : wrap64 ((l.length : Int) - 1) = ((l.length - 1 : Nat) : Int) := by rw [wrap64_id (by omega) (by omega)]; omega
      simp only [if_neg h0, e1, if_pos (show (0 : Int) ≤ ((l.length - 1 : Nat) : Int) by omega), if_pos (show ((l.length - 1 : Nat) : Int) < (l.length : Int) by omega), rd_at]
      by_cases c : l.getD (l.length - 1) 0 < (a : Int)
      · simp only [decide_eq_true c]
        exact yes (.inr c)
      · simp only [decide_eq_false c]
        refine Ev.step (fun k => culletlaw15_WalshGrows.j2.eq_2 _ _ _ _ _ k) ?_
        simp only [Bool.false_eq_true, if_false]
        have : wide l (a : Int) l.length = widest l (a : Int) := by unfold widest; rw [if_neg (by rintro (z | z); (· omega); (· exact c z))]
        rw [this]
        exact rest
  · intro i hi nx
    have hx := hwl i (by omega)
    have hx1 : (wide l (a : Int) i).length < 17592186044416 := by omega
    have hx2 : (wide l (a : Int) i ++ [(a : Int)]).length < 17592186044416 := by rw [List.length_append]; simp; omega
    have hni := hne i hi
    refine Ev.step (fun k => culletlaw15_WalshGrows.l0.eq_2 _ _ _ _ _ _ _ _ k) ?_
    rw [wide_step] at nx
    simp only [if_pos (show ((i : Nat) : Int) < (l.length : Int) by omega), if_pos (show (0 : Int) ≤ (i : Int) by omega), rd_at, wr64' (n := i) (by omega), if_neg hni]
    by_cases c2 : l.getD i 0 > (a : Int)
    · by_cases h0 : ((i : Nat) : Int) = 0
      · rw [if_pos ⟨c2, .inl (by omega)⟩] at nx
        simp only [if_pos c2, if_pos h0, if_pos hx1, Option.bind_some, if_pos hx2]; exact nx
      · have e1 : wrap64 ((i : Int) - 1) = ((i - 1 : Nat) : Int) := by rw [wrap64_id (by omega) (by omega)]; omega
        simp only [if_pos c2, if_neg h0, e1, if_pos (show (0 : Int) ≤ ((i - 1 : Nat) : Int) by omega), if_pos (show ((i - 1 : Nat) : Int) < (l.length : Int) by omega), rd_at]
        by_cases c3 : l.getD (i - 1) 0 < (a : Int)
        · rw [if_pos ⟨c2, .inr c3⟩] at nx
          simp only [if_pos c3, if_pos hx1, Option.bind_some, if_pos hx2]; exact nx
        · rw [if_neg (by rintro ⟨_, z | z⟩; (· omega); (· exact c3 z))] at nx
          simp only [if_neg c3, if_pos hx1]; exact nx
    · rw [if_neg (fun z => c2 z.1)] at nx
      simp only [if_neg c2, if_pos hx1]; exact nx
end Go.Proofs.Ytklkcenffajfeaa.Pure
