/-
WalshTransforms: Transform and Inverse of any list are the document's, and the list stays as it was.
-/
import Derived.Test.YtklkcenffajfeaaWalshFns
import Derived.Test.YtklkcenffajfeaaRefWalsh
import Derived.Test.YtklkcenffajfeaaH9
import Derived.Test.YtklkcenffajfeaaQx2

namespace Go.Proofs.Ytklkcenffajfeaa.Pure
open Go.RowKit Go.Proofs.Ytklkcenffajfeaa.A Go.Proofs.Ytklkcenffajfeaa.Q Go.Proofs.Ytklkcenffajfeaa.F Go.Proofs.Ytklkcenffajfeaa.G Go.Proofs.YtklkcenffajfeaaW.PrintWords Go.Proofs.YtklkcenffajfeaaW.PrintLast Go.Proofs.YtklkcenffajfeaaW.PrintMore Go.Proofs.Ytklkcenffajfeaa.R WH
set_option linter.unusedVariables false
set_option linter.unusedSimpArgs false
theorem okW_of {l : List Int} (hw : ∀ x ∈ l, (Lit.int .u16 x).wf = true) : okW l = true := by
  rw [okW_iff]
  intro j hj
  have hm : l.getD j 0 ∈ l := by
    rw [List.getD_eq_getElem?_getD, List.getElem?_eq_getElem hj]
    exact List.getElem_mem hj
  have := hw _ hm
  simp only [Lit.wf, IntKind.min, IntKind.max, IntKind.signed, IntKind.bits, Bool.and_eq_true, decide_eq_true_eq, Bool.false_eq_true, if_false] at this
  omega
theorem T_of {l : List Int} (h : okW l = true) : walsh_Transform.f l = some (if pwB l.length = true then (lst l.length (fun i => md (tr (Nat.log2 l.length) (vl l) i)), (0 : Int)) else ([], 130)) := by
  unfold walsh_Transform.f
  rw [if_pos h]
  split <;> rfl
theorem I_of {l : List Int} (h : okW l = true) : ∃ x e, walsh_Inverse.f l = some (x, e) ∧ x.length ≤ l.length := by
  unfold walsh_Inverse.f
  rw [if_pos h]
  split
  · exact ⟨_, _, rfl, by rw [lst_len]; exact Nat.le_refl _⟩
  · exact ⟨_, _, rfl, Nat.zero_le _⟩
theorem WalshTransforms : culletlaw15_WalshTransforms.Pure := by
  intro l hl hb hw
  apply Ev.rounds
  have hlen : l.length ≤ 140737488355328 := by omega
  have hok := okW_of hw
  clear hl hw
  unfold culletlaw15_WalshTransforms.f
  refine Ev.bind Fixed15 ?_
  simp only [if_true]
  refine Ev.bind (Copied15 l hlen) ?_
  obtain ⟨x, e, hI, hx⟩ := I_of hok
  have hI2 : culletref15_Inverse.f l = some (x, e) := by unfold culletref15_Inverse.f; rw [if_pos (by omega)]; exact hI
  have hRT := RefTransform hok (show l.length < 2 ^ 62 by omega)
  obtain ⟨y, hy, hyl⟩ : ∃ y, (if pwB l.length = true then (lst l.length (fun i => md (tr (Nat.log2 l.length) (vl l) i)), (0 : Int)) else ([], 130)) = y ∧ y.1.length ≤ l.length := by
    refine ⟨_, rfl, ?_⟩
    split
    · show (lst _ _).length ≤ _; rw [lst_len]; exact Nat.le_refl _
    · exact Nat.zero_le _
  rw [hy] at hRT
  have hT := T_of hok
  rw [hy] at hT
  simp only [hT, Option.bind_some]
  refine Ev.bind hRT ?_
  simp only [if_true]
  refine Ev.bind (Same15_self (by omega) rfl) ?_
  simp only [if_true]
  refine Ev.bind (Same15_self (by omega) rfl) ?_
  refine Ev.step (fun k => culletlaw15_WalshTransforms.j0.eq_2 _ _ _ k) ?_
  simp only [Bool.not_true, Bool.false_eq_true, if_false, hI, hI2, Option.bind_some, if_true]
  refine Ev.bind (Same15_self (by omega) rfl) ?_
  simp only [if_true]
  exact Ev.bind (Same15_self (by omega) rfl) (Ev.now _)
end Go.Proofs.Ytklkcenffajfeaa.Pure
