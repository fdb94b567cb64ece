/- The document's Words and Generator. -/
import Derived.Test.YtkdoilmfchlpdaaZ8
import Derived.Test.YtkdoilmfchlpdaaElem
import Derived.Test.YtkdoilmfchlpdaaWords

namespace Go.Proofs.Ytkdoilmfchlpdaa.R
open Go.RowKit Go.Proofs.YtkdoilmfchlpdaaW.PrintWords Go.Proofs.YtkdoilmfchlpdaaW.PrintLast Go.Proofs.YtkdoilmfchlpdaaW.PrintMore Go.Proofs.Ytkdoilmfchlpdaa.A Go.Proofs.Ytkdoilmfchlpdaa.B Go.Proofs.Ytkdoilmfchlpdaa.RI GP
set_option linter.unusedVariables false
set_option linter.unusedSimpArgs false
theorem lgw_bl {m : Nat} (h1 : 1 ≤ m) (h : m ≤ 65536) : lgw (m : Int) = bl (m - 1) := by
  unfold lgw
  rw [show ((m : Int) - 1).toNat = m - 1 by omega, bitLen_bl _ (by omega)]
theorem Pow2_of {m : Nat} (h1 : 1 ≤ m) (h : m ≤ 65536) : Ev (fun q => culletref11_Pow2.f q (m : Int)) ((2 ^ lgw (m : Int) : Nat) : Int) := by
  obtain ⟨l1, l2⟩ := lgw_le h1 h
  have hb := lgw_bl h1 h
  obtain ⟨u, hu⟩ : ∃ u, u = lgw (m : Int) := ⟨_, rfl⟩
  rw [← hu] at l1 l2 hb ⊢
  unfold culletref11_Pow2.f
  have key := ev_up (r := ((2 ^ u : Nat) : Int)) (L := fun q i => culletref11_Pow2.l0 q (m : Int) ((2 ^ i : Nat) : Int)) (n := u) ?_ ?_ 0 (Nat.zero_le _)
  · exact key
  · refine Ev.step (fun q => culletref11_Pow2.l0.eq_2 _ _ q) ?_
    simp only [if_neg (show ¬ ((2 ^ u : Nat) : Int) < (m : Int) by omega)]
    exact Ev.now _
  · intro i hi nx
    have h2 : 2 ^ i ≤ m - 1 := by
      apply Classical.byContradiction
      intro hc
      have := bl_le.2 (show m - 1 < 2 ^ i by omega)
      omega
    have e : wrap64 (2 * ((2 ^ i : Nat) : Int)) = ((2 ^ (i + 1) : Nat) : Int) := by
      rw [Nat.pow_succ]
      generalize 2 ^ i = q at h2
      rw [wrap64_id (by omega) (by omega)]; omega
    refine Ev.step (fun q => culletref11_Pow2.l0.eq_2 _ _ q) ?_
    simp only [if_pos (show ((2 ^ i : Nat) : Int) < (m : Int) by omega), e]
    exact nx
theorem Words_any (k m j : Int) : ∃ (r : List Int) (e : Int), gener_Words.f k m j = some (r, e) ∧ r.length < 2 ^ 60 := by
  unfold gener_Words.f
  by_cases hp : 1 ≤ k ∧ 1 ≤ m ∧ k ≤ 65536 ∧ m ≤ 65536
  · rw [if_pos hp]
    by_cases hq : ((2 ^ lgw m : Nat) : Int) + k ≤ 65536
    · rw [if_pos hq]
      by_cases hj : 0 ≤ j ∧ j < m
      · rw [if_pos hj]
        refine ⟨_, _, rfl, ?_⟩
        rw [List.length_map, List.length_range]
        omega
      · rw [if_neg hj]; exact ⟨_, _, rfl, by simp⟩
    · rw [if_neg hq]; exact ⟨_, _, rfl, by simp⟩
  · rw [if_neg hp]; exact ⟨_, _, rfl, by simp⟩
end Go.Proofs.Ytkdoilmfchlpdaa.R
