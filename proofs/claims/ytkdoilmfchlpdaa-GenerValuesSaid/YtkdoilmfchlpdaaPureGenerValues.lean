/-
GenerValues: of Vander: for every polynomial of a degree below k, the parity rows make its values at k, k+1, .. out of its values at 0 to k-1.
-/
import Derived.Test.YtkdoilmfchlpdaaZ9
import Derived.Test.YtkdoilmfchlpdaaVx2

namespace Go.Proofs.Ytkdoilmfchlpdaa.Pure
open Go.RowKit Go.Proofs.Ytkdoilmfchlpdaa.V Go.Proofs.Ytkdoilmfchlpdaa.A Go.Proofs.Ytkdoilmfchlpdaa.B Go.Proofs.YtkdoilmfchlpdaaW.PrintWords Go.Proofs.YtkdoilmfchlpdaaW.PrintLast Go.Proofs.YtkdoilmfchlpdaaW.PrintMore Go.Proofs.Ytkdoilmfchlpdaa.R Go.Proofs.Ytkdoilmfchlpdaa.RI
set_option linter.unusedVariables false
set_option linter.unusedSimpArgs false
theorem q_rdV : @V.rd_L1 = @Go.Proofs.Ytkdoilmfchlpdaa.A.rd_L1 := rfl
theorem t8_mod (i : Nat) : ((i : Nat) : Int) % 256 = (((t8 i).1 : Nat) : Int) := by show ((i : Nat) : Int) % 256 = ((i % 256 : Nat) : Int); omega
theorem GenerValues : culletlaw11_GenerValues.Pure := by
  intro l b _ _ hl hb
  apply Ev.rounds
  clear hb
  unfold culletlaw11_GenerValues.f
  refine Ev.bind Awake ?_
  have yes : Ev (fun k => culletlaw11_GenerValues.j0 k l b true) true := by
    refine Ev.step (fun r => culletlaw11_GenerValues.j0.eq_2 _ _ _ r) ?_
    simp only [if_true]; exact Ev.now _
  by_cases h1 : (l.length : Int) < 1
  · simp only [if_true, if_pos h1]; exact yes
  by_cases h2 : (l.length : Int) > 200
  · simp only [if_true, if_neg h1, decide_eq_true h2]; exact yes
  simp only [if_true, if_neg h1, decide_eq_false h2]
  have b1 : 1 ≤ mn (wrap64 (256 - (l.length : Int))) 20 ∧ mn (wrap64 (256 - (l.length : Int))) 20 ≤ 20 ∧ mn (wrap64 (256 - (l.length : Int))) 20 ≤ 256 - (l.length : Int) := by
    rw [wrap64_id (by omega) (by omega)]
    unfold mn
    by_cases c : (20 : Int) < 256 - (l.length : Int)
    · rw [if_pos c]; omega
    · rw [if_neg c]; omega
  obtain ⟨m, em, m1, m2⟩ := into_is b (lo := 1) (hi := mn (wrap64 (256 - (l.length : Int))) 20) b1.1 (by decide) (by omega)
  obtain ⟨m, rfl⟩ := Int.eq_ofNat_of_zero_le (show 0 ≤ m by omega)
  refine Ev.step (fun r => culletlaw11_GenerValues.j0.eq_2 _ _ _ r) ?_
  simp only [Bool.false_eq_true, if_false, em, Option.bind_some]
  obtain ⟨n, hn⟩ : ∃ n, n = l.length := ⟨_, rfl⟩
  refine Ev.bind (Parity_of false (k := l.length) (m := m) (by omega) (by omega) (by omega)) ?_
  simp only [if_true, mt_len, bne_self_eq_false]
  refine Ev.step (fun r => culletlaw11_GenerValues.j1.eq_2 _ _ _ _ _ r) ?_
  simp only [Bool.false_eq_true, if_false]
  rw [← hn]
  refine ev_up (L := fun r j => culletlaw11_GenerValues.l0 r l (m : Int) (n : Int) (mt m n (fun j i => gmat false n (n + j) i)) ((j : Nat) : Int)) (n := m) ?_ ?_ 0 (Nat.zero_le _)
  · refine Ev.step (fun r => culletlaw11_GenerValues.l0.eq_2 _ _ _ _ _ r) ?_
    simp only [if_neg (show ¬ ((m : Nat) : Int) < (m : Int) by omega)]
    exact Ev.now _
  · intro j hj nx
    refine Ev.step (fun r => culletlaw11_GenerValues.l0.eq_2 _ _ _ _ _ r) ?_
    simp only [q_rdV, if_pos (show ((j : Nat) : Int) < (m : Int) by omega), if_pos (show (0 : Int) ≤ (j : Int) by omega), mt_len, mt_row hj, rw8_len, if_true]
    refine ev_up (L := fun r i => culletlaw11_GenerValues.l1 r l (m : Int) (n : Int) (mt m n (fun j i => gmat false n (n + j) i)) ((j : Nat) : Int) (((LA.sm i (fun c => gmat false n (n + j) c * LA.ev n (c8 l) (t8 c))).1 : Nat) : Int) ((i : Nat) : Int)) (n := n) ?_ ?_ 0 (Nat.zero_le _)
    · refine Ev.step (fun r => culletlaw11_GenerValues.l1.eq_2 _ _ _ _ _ _ _ r) ?_
      have e1 : (wrap64 ((n : Int) + (j : Int))) % 256 = (((t8 (n + j)).1 : Nat) : Int) := by rw [wrap64_id (by omega) (by omega), ← t8_mod]; omega
      have e2 : LA.sm n (fun c => gmat false n (n + j) c * LA.ev n (c8 l) (t8 c)) = LA.ev n (c8 l) (t8 (n + j)) := by
        rw [LA.lagrange (u := t8) (ev_isP n (c8 l)) (fun a b ha hb => pt_inj a b (by omega) (by omega)) (t8 (n + j))]
        exact LA.sm_congr (fun c hc => by
          unfold gmat LA.gm
          rw [if_neg (show ¬ n + j < n by omega)]
          rfl)
      simp only [if_neg (show ¬ ((n : Nat) : Int) < (n : Int) by omega), e1, e2]
      have hv := Value_of hl (by omega) (t8 (n + j))
      rw [← hn] at hv
      refine Ev.bind hv ?_
      simp only [if_true, wr_up (n := j) (by omega)]
      exact nx
    · intro i hi nx2
      refine Ev.step (fun r => culletlaw11_GenerValues.l1.eq_2 _ _ _ _ _ _ _ r) ?_
      simp only [q_rdV, if_pos (show ((i : Nat) : Int) < (n : Int) by omega), if_pos (show (0 : Int) ≤ (j : Int) by omega), mt_len, if_pos (show ((j : Nat) : Int) < (m : Int) by omega), if_pos (show (0 : Int) ≤ (i : Int) by omega), mt_row hj, rw8_len, rw8_get hi, t8_mod i]
      have hv := Value_of hl (by omega) (t8 i)
      rw [← hn] at hv
      refine Ev.bind hv ?_
      refine Ev.bind (Mul8 (gmat false n (n + j) i).2 (LA.ev n (c8 l) (t8 i)).2) ?_
      have e3 : Go.bits .xor .u8 (((LA.sm i (fun c => gmat false n (n + j) c * LA.ev n (c8 l) (t8 c))).1 : Nat) : Int) ((m8 (gmat false n (n + j) i).1 (LA.ev n (c8 l) (t8 i)).1 : Nat) : Int) = (((LA.sm (i + 1) (fun c => gmat false n (n + j) c * LA.ev n (c8 l) (t8 c))).1 : Nat) : Int) :=
        bits_xor8 (LA.sm i (fun c => gmat false n (n + j) c * LA.ev n (c8 l) (t8 c))).2 (gmat false n (n + j) i * LA.ev n (c8 l) (t8 i)).2
      simp only [e3, wr_up (n := i) (by omega)]
      exact nx2
end Go.Proofs.Ytkdoilmfchlpdaa.Pure
