/- The document's transform is the transform. -/
import Derived.Test.YtklkcenffajfeaaRefW0
import Derived.Test.YtklkcenffajfeaaH8
import Derived.Test.YtklkcenffajfeaaRowsI
import Derived.Test.YtklkcenffajfeaaFx1
import Derived.Test.YtklkcenffajfeaaGx1

namespace Go.Proofs.Ytklkcenffajfeaa.R
open Go.RowKit Go.Proofs.YtklkcenffajfeaaW.PrintWords Go.Proofs.YtklkcenffajfeaaW.PrintLast Go.Proofs.YtklkcenffajfeaaW.PrintMore Go.Proofs.Ytklkcenffajfeaa.A Go.Proofs.Ytklkcenffajfeaa.F Go.Proofs.Ytklkcenffajfeaa.G Go.Proofs.Ytklkcenffajfeaa.RI WH
set_option linter.unusedVariables false
set_option linter.unusedSimpArgs false
theorem si_bound (n : Nat) (f : Nat → Int) (h : ∀ i, i < n → -65535 ≤ f i ∧ f i ≤ 65535) : -(65535 * (n : Int)) ≤ si n f ∧ si n f ≤ 65535 * (n : Int) := by
  induction n with
  | zero => exact ⟨by show _ ≤ (0 : Int); omega, by show (0 : Int) ≤ _; omega⟩
  | succ n ih =>
    have h1 := ih (fun i hi => h i (by omega))
    have h2 := h n (by omega)
    rw [si]
    omega
theorem RefTransform {l : List Int} (hw : okW l = true) (hl : l.length < 2 ^ 62) : Ev (fun k => culletref15_Transform.f k l) (if pwB l.length = true then (lst l.length (fun i => md (tr (Nat.log2 l.length) (vl l) i)), (0 : Int)) else ([], 130)) := by
  unfold culletref15_Transform.f
  simp only [RefGood, Option.bind_some]
  by_cases hp : pwB l.length = true
  rotate_left
  · simp only [if_neg hp]
    exact Ev.now _
  obtain ⟨hn, hmax⟩ := pw_log hp
  obtain ⟨r, hr⟩ : ∃ r, r = Nat.log2 l.length := ⟨_, rfl⟩
  rw [← hr] at hn ⊢
  have hr16 : r ≤ 16 := by
    have : 2 ^ r ≤ 2 ^ 16 := by rw [← hn]; exact hmax
    exact (Nat.pow_le_pow_iff_right (by decide)).1 this
  simp only [if_pos hp]
  have hv := okW_iff.1 hw
  by_cases hb : (l.length : Int) > 256
  · simp only [if_pos hb]
    refine Ev.bind (RefInts hmax hw) ?_
    have ho : culletref15_Ordered.f l = some (lst l.length (fun i => md (tr r (vl l) i))) := by unfold culletref15_Ordered.f; rw [if_pos hp, ← hr]
    simp only [ho, Option.bind_some]
    refine Ev.bind (RefWords hmax _) ?_
    have e : lst l.length (fun i => md (md (tr r (vl l) i))) = lst l.length (fun i => md (tr r (vl l) i)) := lst_congr (fun j _ => md_md _)
    rw [e]
    exact Ev.now _
  · simp only [if_neg hb, if_pos (show (0 : Int) ≤ (l.length : Int) by omega), Int.toNat_natCast, if_pos (show l.length ≤ 35184372088832 by omega), Option.bind_some, List.length_replicate]
    rw [lst_zero l.length (fun i => tr r (vl l) i)]
    refine ev_up (L := fun k i => culletref15_Transform.l0 k l (lst l.length (fun j => if j < i then tr r (vl l) j else 0)) (l.length : Int) ((i : Nat) : Int)) (n := l.length) ?_ ?_ 0 (Nat.zero_le _)
    · refine Ev.step (fun k => culletref15_Transform.l0.eq_2 _ _ _ _ k) ?_
      simp only [if_neg (show ¬ ((l.length : Nat) : Int) < (l.length : Int) by omega), lst_done]
      refine Ev.bind (RefWords (by omega) _) ?_
      exact Ev.now _
    · intro i hi nx
      refine Ev.step (fun k => culletref15_Transform.l0.eq_2 _ _ _ _ k) ?_
      simp only [if_pos (show ((i : Nat) : Int) < (l.length : Int) by omega)]
      have bd : ∀ j, j < l.length → -65535 ≤ sgn r i j * vl l j ∧ sgn r i j * vl l j ≤ 65535 := fun j hj => by
        obtain ⟨v0, v1⟩ := hv j hj
        have : vl l j = l.getD j 0 := rfl
        rcases sgn_pm r i j with e | e <;> rw [e, this] <;> omega
      refine ev_up (L := fun k j => culletref15_Transform.l1 k l (lst l.length (fun j => if j < i then tr r (vl l) j else 0)) ((i : Nat) : Int) (si j (fun j => sgn r i j * vl l j)) (l.length : Int) ((i : Nat) : Int) l (l.length : Int) ((j : Nat) : Int)) (n := l.length) ?_ ?_ 0 (Nat.zero_le _)
      · refine Ev.step (fun k => culletref15_Transform.l1.eq_2 _ _ _ _ _ _ _ _ _ k) ?_
        simp only [if_neg (show ¬ ((l.length : Nat) : Int) < (l.length : Int) by omega), if_pos (show (0 : Int) ≤ (i : Int) by omega), lst_len, if_pos (show ((i : Nat) : Int) < (l.length : Int) by omega), Int.toNat_natCast, lst_step (fun i => tr r (vl l) i) (show si l.length (fun j => sgn r i j * vl l j) = tr r (vl l) i by rw [hn]; rfl), wr_up (n := i) (by omega)]
        exact nx
      · intro j hj nx2
        refine Ev.step (fun k => culletref15_Transform.l1.eq_2 _ _ _ _ _ _ _ _ _ k) ?_
        obtain ⟨v0, v1⟩ := hv j hj
        have b1 := bd j hj
        have b2 := si_bound j (fun j => sgn r i j * vl l j) (fun a ha => bd a (by omega))
        simp only [if_pos (show ((j : Nat) : Int) < (l.length : Int) by omega), if_pos (show (0 : Int) ≤ (j : Int) by omega), rd_nat]
        refine Ev.bind (RefSign (by omega) (by omega) hr16) ?_
        have e1 : wrap64 (sgn r i j * wrap64 (l.getD j 0)) = sgn r i j * vl l j := by
          rw [w64 (n := l.getD j 0) (by omega) (by omega)]
          exact w64 (by have := b1.1; show -9223372036854775808 ≤ sgn r i j * vl l j; omega) (by have := b1.2; show sgn r i j * vl l j ≤ _; omega)
        simp only [e1, w64 (n := si j (fun j => sgn r i j * vl l j) + sgn r i j * vl l j) (by omega) (by omega), wr_up (n := j) (by omega)]
        exact nx2
end Go.Proofs.Ytklkcenffajfeaa.R
