/-
WalshConvolves: Convolve of any two lists is the document's, and the lists stay as they were.
-/
import Derived.Test.YtklkcenffajfeaaWalshFns
import Derived.Test.YtklkcenffajfeaaRefConv
import Derived.Test.YtklkcenffajfeaaQx3

namespace Go.Proofs.Ytklkcenffajfeaa.Pure
open Go.RowKit Go.Proofs.Ytklkcenffajfeaa.A Go.Proofs.Ytklkcenffajfeaa.Q Go.Proofs.Ytklkcenffajfeaa.F Go.Proofs.Ytklkcenffajfeaa.G Go.Proofs.YtklkcenffajfeaaW.PrintWords Go.Proofs.YtklkcenffajfeaaW.PrintLast Go.Proofs.YtklkcenffajfeaaW.PrintMore Go.Proofs.Ytklkcenffajfeaa.R WH
set_option linter.unusedVariables false
set_option linter.unusedSimpArgs false
theorem okW_of {l : List Int} (hw : ∀ x ∈ l, (Lit.int .u16 x).wf = true) : okW l = true := by
  rw [okW_iff]
  intro j hj
  have hm : l.getD j 0 ∈ l := by
    rw [List.getD_eq_getElem?_getD, List.getElem?_eq_getElem hj]
    exact List.getElem_mem hj
  have := hw _ hm
  simp only [Lit.wf, IntKind.min, IntKind.max, IntKind.signed, IntKind.bits, Bool.and_eq_true, decide_eq_true_eq, Bool.false_eq_true, if_false] at this
  omega
theorem WalshConvolves : culletlaw15_WalshConvolves.Pure := by
  intro a b hl hb hw hl' hb' hw'
  apply Ev.rounds
  have hlen : a.length ≤ 140737488355328 := by omega
  have hlen' : b.length ≤ 140737488355328 := by omega
  have ha := okW_of hw
  have hbo := okW_of hw'
  clear hl hw hl' hw' hb hb'
  have hC := C_of ha hbo
  have hR := RefConvolve ha hbo (by omega)
  obtain ⟨y, hy, hyl⟩ : ∃ y, (if pwB a.length = true ∧ pwB b.length = true then (if a.length = b.length then (lst a.length (fun i => md (cv (Nat.log2 a.length) (vl a) (vl b) i)), (0 : Int)) else ([], 6)) else ([], 130)) = y ∧ y.1.length ≤ a.length := by
    refine ⟨_, rfl, ?_⟩
    split
    · split
      · show (lst _ _).length ≤ _; rw [lst_len]; exact Nat.le_refl _
      · exact Nat.zero_le _
    · exact Nat.zero_le _
  rw [hy] at hC hR
  unfold culletlaw15_WalshConvolves.f
  refine Ev.bind Fixed15 ?_
  simp only [if_true]
  refine Ev.bind (Copied15 a hlen) ?_
  refine Ev.bind (Copied15 b hlen') ?_
  simp only [hC, Option.bind_some]
  refine Ev.bind hR ?_
  simp only [if_true]
  refine Ev.bind (Same15_self (by omega) rfl) ?_
  simp only [if_true]
  refine Ev.bind (Same15_self (by omega) rfl) ?_
  simp only [if_true]
  exact Ev.bind (Same15_self (by omega) rfl) (Ev.now _)
end Go.Proofs.Ytklkcenffajfeaa.Pure
