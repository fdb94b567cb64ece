/-
WalshLocates: Logs of any r, Locator and Products of any lost indices and any r are the document's, and the indices stay as they were.
-/
import Derived.Test.YtklkcenffajfeaaWalshFns
import Derived.Test.YtklkcenffajfeaaRefLctr
import Derived.Test.YtklkcenffajfeaaQx6

namespace Go.Proofs.Ytklkcenffajfeaa.Pure
open Go.RowKit Go.Proofs.Ytklkcenffajfeaa.A Go.Proofs.Ytklkcenffajfeaa.Q Go.Proofs.Ytklkcenffajfeaa.F Go.Proofs.Ytklkcenffajfeaa.G Go.Proofs.YtklkcenffajfeaaW.PrintWords Go.Proofs.YtklkcenffajfeaaW.PrintLast Go.Proofs.YtklkcenffajfeaaW.PrintMore Go.Proofs.Ytklkcenffajfeaa.R WH
set_option linter.unusedVariables false
set_option linter.unusedSimpArgs false
theorem locA_len (l : List Int) (r : Int) : (locA l r).1.length ≤ 65536 := by
  unfold locA
  split
  · split
    · show (lst _ _).length ≤ _; rw [lst_len]; exact (show 2 ^ r.toNat ≤ 2 ^ 16 from Nat.pow_le_pow_right (by decide) (by omega))
    · exact Nat.zero_le _
  · exact Nat.zero_le _
theorem prodA_len (l : List Int) (r : Int) : (prodA l r).1.length ≤ 65536 := by
  have := locA_len l r
  unfold prodA
  split
  · show (lst _ _).length ≤ _; rw [lst_len]; exact this
  · exact Nat.zero_le _
theorem WalshLocates : culletlaw15_WalshLocates.Pure := by
  intro l r hl hb hw hr
  apply Ev.rounds
  have hlen : l.length ≤ 35184372088832 := by omega
  clear hl hw hr
  unfold culletlaw15_WalshLocates.f
  refine Ev.bind Fixed15 ?_
  simp only [if_true]
  obtain ⟨y, hL, hR, hy⟩ : ∃ y, walsh_Logs.f r = some y ∧ Ev (fun k => culletref15_Logs.f k r) y ∧ y.1.length ≤ 65536 := by
    by_cases h : 0 ≤ r ∧ r ≤ 16
    · obtain ⟨n, rfl⟩ := Int.eq_ofNat_of_zero_le h.1
      refine ⟨(lst (2 ^ n) lgE, 0), by unfold walsh_Logs.f; rw [if_pos h, Int.toNat_natCast], RefLogs (by omega), ?_⟩
      show (lst _ _).length ≤ _; rw [lst_len]; exact (show 2 ^ n ≤ 2 ^ 16 from Nat.pow_le_pow_right (by decide) (by omega))
    · exact ⟨([], 7), by unfold walsh_Logs.f; rw [if_neg h], RefLogs_no h, Nat.zero_le _⟩
  simp only [hL, Option.bind_some]
  refine Ev.bind hR ?_
  simp only [if_true]
  refine Ev.bind (Same15_self (by omega) rfl) ?_
  refine Ev.step (fun k => culletlaw15_WalshLocates.j0.eq_2 _ _ _ k) ?_
  simp only [Bool.not_true, Bool.false_eq_true, if_false]
  refine Ev.bind (CopiedInts15 l hlen) ?_
  have h1 := locA_len l r
  have h2 := prodA_len l r
  have e1 : walsh_Locator.f l r = some (locA l r) := L_of (by omega)
  simp only [e1, Option.bind_some]
  refine Ev.bind (RefLocator (by omega)) ?_
  simp only [if_true]
  refine Ev.bind (Same15_self (by omega) rfl) ?_
  simp only [if_true]
  refine Ev.bind (SameInts15 l (by omega)) ?_
  refine Ev.step (fun k => culletlaw15_WalshLocates.j1.eq_2 _ _ _ _ k) ?_
  simp only [Bool.not_true, Bool.false_eq_true, if_false, P_of (show l.length ≤ 1152921504606846976 by omega), Option.bind_some]
  refine Ev.bind (RefProducts (by omega)) ?_
  simp only [if_true]
  refine Ev.bind (Same15_self (by omega) rfl) ?_
  simp only [if_true]
  exact Ev.bind (SameInts15 l (by omega)) (Ev.now _)
end Go.Proofs.Ytklkcenffajfeaa.Pure
