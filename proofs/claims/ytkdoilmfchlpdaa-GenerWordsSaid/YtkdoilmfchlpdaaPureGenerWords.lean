/-
GenerWords: every call of Words is the document's. The bounds are those within which arguments can be handed in.
-/
import Derived.Test.YtkdoilmfchlpdaaZ8
import Derived.Test.YtkdoilmfchlpdaaLx1

namespace Go.Proofs.Ytkdoilmfchlpdaa.Pure
open Go.RowKit Go.Proofs.Ytkdoilmfchlpdaa.L Go.Proofs.Ytkdoilmfchlpdaa.A Go.Proofs.Ytkdoilmfchlpdaa.B Go.Proofs.YtkdoilmfchlpdaaW.PrintWords Go.Proofs.YtkdoilmfchlpdaaW.PrintLast Go.Proofs.YtkdoilmfchlpdaaW.PrintMore Go.Proofs.Ytkdoilmfchlpdaa.R Go.Proofs.Ytkdoilmfchlpdaa.RI
set_option linter.unusedVariables false
set_option linter.unusedSimpArgs false
theorem wf64 {x : Int} (h : (Lit.int .i64 x).wf = true) : -9223372036854775808 ≤ x ∧ x ≤ 9223372036854775807 := by
  simp [Lit.wf, IntKind.min, IntKind.max, IntKind.bits, IntKind.signed] at h
  omega
theorem GenerWords : culletlaw11_GenerWords.Pure := by
  intro l hok
  apply Ev.rounds
  unfold culletlaw11_GenerWords.f
  have hl := hok.1
  suffices h : Ev (fun k => culletlaw11_plays.f k l 4 4) true from Ev.bind h (Ev.now _)
  unfold culletlaw11_plays.f
  simp only [awk11.f, Option.bind_some, if_true]
  refine ev_up (L := fun k i => culletlaw11_plays.l0 k l 4 4 ((i : Nat) : Int)) (n := l.length) ?_ ?_ 0 (Nat.zero_le _)
  · refine Ev.step (fun k => culletlaw11_plays.l0.eq_2 _ _ _ _ k) ?_
    simp only [if_neg (show ¬ ((l.length : Nat) : Int) < (l.length : Int) by omega)]
    exact Ev.now _
  · intro i hi nx
    obtain ⟨o, ho⟩ : ∃ o, rd_T88 l (i : Int) = o := ⟨_, rfl⟩
    have hoo : okT88 o := by
      have : rd_T88 l (i : Int) = l[i] := by unfold rd_T88; rw [Int.toNat_natCast, List.getD_eq_getElem?_getD, List.getElem?_eq_getElem hi]; rfl
      rw [← ho, this]
      exact hok.2 _ (List.getElem_mem hi)
    obtain ⟨_, w1, w2, w3, w4, w5, w6, w7⟩ := hoo
    refine Ev.step (fun k => culletlaw11_plays.l0.eq_2 _ _ _ _ k) ?_
    simp only [if_pos (show ((i : Nat) : Int) < (l.length : Int) by omega), if_pos (show (0 : Int) ≤ (i : Int) by omega), ho, wr_up (n := i) (by omega)]
    by_cases h1 : o.f0 ≥ 4
    · by_cases h2 : o.f0 ≤ 4
      · have e : culletlaw11_one.f o.f0 o.f1 o.f2 o.f3 o.f4 o.f5 o.f6 o.f7 = some true := by
          unfold culletlaw11_one.f
          exact if_pos ⟨by omega, ⟨(wf64 w1).1, (wf64 w1).2, (wf64 w2).1, (wf64 w2).2, (wf64 w3).1, (wf64 w3).2, (wf64 w4).1, (wf64 w4).2⟩, w5.1, w6.1, w7⟩
        simp only [if_pos h1, if_pos h2, e, Option.bind_some, if_true]
        exact nx
      · simp only [if_pos h1, if_neg h2]
        exact nx
    · simp only [if_neg h1]
      exact nx
end Go.Proofs.Ytkdoilmfchlpdaa.Pure
