/-
GenerCauchys: of Cauchy: each factor times (k + j) + i is 1, at all valid numbers.
-/
import Derived.Test.YtkdoilmfchlpdaaZ9
import Derived.Test.YtkdoilmfchlpdaaQx1

namespace Go.Proofs.Ytkdoilmfchlpdaa.Pure
open Go.RowKit Go.Proofs.Ytkdoilmfchlpdaa.A Go.Proofs.Ytkdoilmfchlpdaa.Q Go.Proofs.Ytkdoilmfchlpdaa.A Go.Proofs.Ytkdoilmfchlpdaa.B Go.Proofs.YtkdoilmfchlpdaaW.PrintWords Go.Proofs.YtkdoilmfchlpdaaW.PrintLast Go.Proofs.YtkdoilmfchlpdaaW.PrintMore Go.Proofs.Ytkdoilmfchlpdaa.R Go.Proofs.Ytkdoilmfchlpdaa.RI
set_option linter.unusedVariables false
set_option linter.unusedSimpArgs false
theorem q_rdQ : @Q.rd_L1 = @Go.Proofs.Ytkdoilmfchlpdaa.A.rd_L1 := rfl
theorem GenerCauchys : culletlaw11_GenerCauchys.Pure := by
  intro a b ha hb
  apply Ev.rounds
  clear ha hb
  unfold culletlaw11_GenerCauchys.f
  refine Ev.bind Awake ?_
  obtain ⟨k, ek, k1, k2⟩ := into_is a (lo := 1) (hi := 255) (by decide) (by decide) (by decide)
  obtain ⟨k, rfl⟩ := Int.eq_ofNat_of_zero_le (show 0 ≤ k by omega)
  obtain ⟨m, em, m1, m2⟩ := into_is b (lo := 1) (hi := 256 - (k : Int)) (by omega) (by decide) (by omega)
  obtain ⟨m, rfl⟩ := Int.eq_ofNat_of_zero_le (show 0 ≤ m by omega)
  simp only [if_true, ek, Option.bind_some, wrap64_id (n := 256 - (k : Int)) (by omega) (by omega), em]
  refine Ev.bind (Parity_of true (k := k) (m := m) (by omega) (by omega) (by omega)) ?_
  simp only [if_true, mt_len, bne_self_eq_false]
  refine Ev.step (fun r => culletlaw11_GenerCauchys.j0.eq_2 _ _ _ _ r) ?_
  simp only [Bool.false_eq_true, if_false]
  refine ev_up (L := fun r j => culletlaw11_GenerCauchys.l0 r (k : Int) (m : Int) (mt m k (fun j i => gmat true k (k + j) i)) ((j : Nat) : Int)) (n := m) ?_ ?_ 0 (Nat.zero_le _)
  · refine Ev.step (fun r => culletlaw11_GenerCauchys.l0.eq_2 _ _ _ _ r) ?_
    simp only [if_neg (show ¬ ((m : Nat) : Int) < (m : Int) by omega)]
    exact Ev.now _
  · intro j hj nx
    refine Ev.step (fun r => culletlaw11_GenerCauchys.l0.eq_2 _ _ _ _ r) ?_
    simp only [q_rdQ, if_pos (show ((j : Nat) : Int) < (m : Int) by omega), if_pos (show (0 : Int) ≤ (j : Int) by omega), mt_len, mt_row hj, rw8_len, if_true]
    refine ev_up (L := fun r i => culletlaw11_GenerCauchys.l1 r (k : Int) (m : Int) (mt m k (fun j i => gmat true k (k + j) i)) ((j : Nat) : Int) ((i : Nat) : Int)) (n := k) ?_ ?_ 0 (Nat.zero_le _)
    · refine Ev.step (fun r => culletlaw11_GenerCauchys.l1.eq_2 _ _ _ _ _ r) ?_
      simp only [if_neg (show ¬ ((k : Nat) : Int) < (k : Int) by omega), wr_up (n := j) (by omega)]
      exact nx
    · intro i hi nx2
      refine Ev.step (fun r => culletlaw11_GenerCauchys.l1.eq_2 _ _ _ _ _ r) ?_
      have hx : Go.bits .xor .u8 ((wrap64 ((k : Int) + (j : Int))) % 256) (((i : Nat) : Int) % 256) = (((t8 (k + j) + t8 i).1 : Nat) : Int) := by
        rw [wrap64_id (by omega) (by omega), show ((k : Int) + (j : Int)) % 256 = (((k + j) % 256 : Nat) : Int) by omega, show ((i : Nat) : Int) % 256 = ((i % 256 : Nat) : Int) by omega]
        exact bits_xor8 (Nat.mod_lt _ (by decide)) (Nat.mod_lt _ (by decide))
      simp only [q_rdQ, if_pos (show ((i : Nat) : Int) < (k : Int) by omega), if_pos (show (0 : Int) ≤ (j : Int) by omega), mt_len, if_pos (show ((j : Nat) : Int) < (m : Int) by omega), if_pos (show (0 : Int) ≤ (i : Int) by omega), mt_row hj, rw8_len, rw8_get hi, hx]
      refine Ev.bind (Mul8 (gmat true k (k + j) i).2 (t8 (k + j) + t8 i).2) ?_
      have hne : t8 (k + j) + t8 i ≠ 0 := fun e => by
        have := pt_inj (k + j) i (by omega) (by omega) (LA.eq_of_add e)
        omega
      have hg : gmat true k (k + j) i = LA.Fld.iv (t8 (k + j) + t8 i) := by
        unfold gmat LA.gm
        rw [if_neg (by omega), if_pos rfl]
      have h1 : m8 (gmat true k (k + j) i).1 (t8 (k + j) + t8 i).1 = 1 := by
        have := LA.iv_mul hne
        rw [← hg] at this
        exact congrArg G8.v this
      rw [h1]
      simp only [if_pos (show ((1 : Nat) : Int) = 1 from rfl), wr_up (n := i) (by omega)]
      exact nx2
end Go.Proofs.Ytkdoilmfchlpdaa.Pure
