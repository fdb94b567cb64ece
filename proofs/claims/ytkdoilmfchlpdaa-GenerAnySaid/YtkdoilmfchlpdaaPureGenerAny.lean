/-
GenerAny: any k shards determine the others: Decoder's rows over the generator's rows of these k give the generator back.
-/
import Derived.Test.YtkdoilmfchlpdaaZ9
import Derived.Test.YtkdoilmfchlpdaaYx2

namespace Go.Proofs.Ytkdoilmfchlpdaa.Pure
open Go.RowKit Go.Proofs.Ytkdoilmfchlpdaa.Y Go.Proofs.Ytkdoilmfchlpdaa.A Go.Proofs.Ytkdoilmfchlpdaa.B Go.Proofs.YtkdoilmfchlpdaaW.PrintWords Go.Proofs.YtkdoilmfchlpdaaW.PrintLast Go.Proofs.YtkdoilmfchlpdaaW.PrintMore Go.Proofs.Ytkdoilmfchlpdaa.R Go.Proofs.Ytkdoilmfchlpdaa.RI
set_option linter.unusedVariables false
set_option linter.unusedSimpArgs false
set_option linter.unusedSectionVars false
theorem q_rdY : @Y.rd_L1 = @Go.Proofs.Ytkdoilmfchlpdaa.A.rd_L1 := rfl
section
variable {k m : Nat} (k1 : 1 ≤ k) (k2 : k ≤ 24) (m1 : 1 ≤ m) (m2 : m ≤ 24) {r : List Int} (r1 : riB ((k + m : Nat) : Int) r = true) (r2 : r.length = k) {D G : Nat → Nat → G8}
  (hD : ∀ s c, s < k + m → c < k → LA.sm k (fun i => D s i * G (nn r i) c) = G s c) (hU : ∀ s i, s < k → i < k → D (nn r s) i = LA.one s i) (hG : ∀ s i, s < k → i < k → G s i = LA.one s i)
include k1 k2 m1 m2 r1 r2
theorem rd_us {i : Nat} (hi : i < k) : rd r (i : Int) = ((nn r i : Nat) : Int) ∧ nn r i < k + m := by
  have h := (riB_iff.1 r1) i (by omega)
  rw [rd_nat]
  unfold nn
  omega
include hG hU
theorem part5 : Ev (fun q => culletlaw11_GenerAny.l5 q (k : Int) (mt (k + m) k G) r (mt (k + m) k D) 0) true := by
  refine ev_up (L := fun q i => culletlaw11_GenerAny.l5 q (k : Int) (mt (k + m) k G) r (mt (k + m) k D) ((i : Nat) : Int)) (n := k) ?_ ?_ 0 (Nat.zero_le _)
  · refine Ev.step (fun q => culletlaw11_GenerAny.l5.eq_2 _ _ _ _ _ q) ?_
    simp only [if_neg (show ¬ ((k : Nat) : Int) < (k : Int) by omega)]
    exact Ev.now _
  · intro i hi nx
    refine Ev.step (fun q => culletlaw11_GenerAny.l5.eq_2 _ _ _ _ _ q) ?_
    simp only [if_pos (show ((i : Nat) : Int) < (k : Int) by omega)]
    refine ev_up (L := fun q c => culletlaw11_GenerAny.l6 q (k : Int) (mt (k + m) k G) r (mt (k + m) k D) ((i : Nat) : Int) ((c : Nat) : Int)) (n := k) ?_ ?_ 0 (Nat.zero_le _)
    · refine Ev.step (fun q => culletlaw11_GenerAny.l6.eq_2 _ _ _ _ _ _ q) ?_
      simp only [if_neg (show ¬ ((k : Nat) : Int) < (k : Int) by omega), wr_up (n := i) (by omega)]
      exact nx
    · intro c hc nx2
      obtain ⟨u1, u2⟩ := rd_us k1 k2 m1 m2 r1 r2 hi
      refine Ev.step (fun q => culletlaw11_GenerAny.l6.eq_2 _ _ _ _ _ _ q) ?_
      simp only [q_rdY, if_pos (show ((c : Nat) : Int) < (k : Int) by omega), if_pos (show (0 : Int) ≤ (i : Int) by omega), if_pos (show ((i : Nat) : Int) < (r.length : Int) by omega), u1, if_pos (show (0 : Int) ≤ ((nn r i : Nat) : Int) by omega), mt_len, if_pos (show ((nn r i : Nat) : Int) < ((k + m : Nat) : Int) by omega), if_pos (show (0 : Int) ≤ (c : Int) by omega), mt_row u2, rw8_len, rw8_get hc, hU i c hi hc, one_bit, Bool.false_eq_true, if_false, if_pos (show ((i : Nat) : Int) < ((k + m : Nat) : Int) by omega), mt_row (show i < k + m by omega), hG i c hi hc, wr_up (n := c) (by omega)]
      by_cases e : i = c
      · simp only [if_pos (show ((i : Nat) : Int) = ((c : Nat) : Int) by omega)]
        exact nx2
      · simp only [if_neg (show ¬ ((i : Nat) : Int) = ((c : Nat) : Int) by omega), one_off e, if_true]
        exact nx2
include hD
theorem part1 : Ev (fun q => culletlaw11_GenerAny.l1 q (k : Int) (m : Int) (mt (k + m) k G) r (mt (k + m) k D) 0) true := by
  have hw : wrap64 ((k : Int) + (m : Int)) = ((k + m : Nat) : Int) := by rw [wrap64_id (by omega) (by omega)]; omega
  refine ev_up (L := fun q s => culletlaw11_GenerAny.l1 q (k : Int) (m : Int) (mt (k + m) k G) r (mt (k + m) k D) ((s : Nat) : Int)) (n := k + m) ?_ ?_ 0 (Nat.zero_le _)
  rotate_left
  · intro s hs nx
    refine Ev.step (fun q => culletlaw11_GenerAny.l1.eq_2 _ _ _ _ _ _ q) ?_
    simp only [q_rdY, hw, if_pos (show ((s : Nat) : Int) < ((k + m : Nat) : Int) by omega), if_pos (show (0 : Int) ≤ (s : Int) by omega), mt_len, mt_row hs, rw8_len, if_true, wr_up (n := s) (by omega)]
    exact nx
  refine Ev.step (fun q => culletlaw11_GenerAny.l1.eq_2 _ _ _ _ _ _ q) ?_
  simp only [hw, if_neg (show ¬ ((k + m : Nat) : Int) < ((k + m : Nat) : Int) by omega)]
  refine ev_up (L := fun q s => culletlaw11_GenerAny.l2 q (k : Int) (m : Int) (mt (k + m) k G) r (mt (k + m) k D) ((s : Nat) : Int)) (n := k + m) ?_ ?_ 0 (Nat.zero_le _)
  · refine Ev.step (fun q => culletlaw11_GenerAny.l2.eq_2 _ _ _ _ _ _ q) ?_
    simp only [hw, if_neg (show ¬ ((k + m : Nat) : Int) < ((k + m : Nat) : Int) by omega)]
    exact part5 k1 k2 m1 m2 r1 r2 hU hG
  · intro s hs nx
    refine Ev.step (fun q => culletlaw11_GenerAny.l2.eq_2 _ _ _ _ _ _ q) ?_
    simp only [hw, if_pos (show ((s : Nat) : Int) < ((k + m : Nat) : Int) by omega)]
    refine ev_up (L := fun q c => culletlaw11_GenerAny.l3 q (k : Int) (m : Int) (mt (k + m) k G) r (mt (k + m) k D) ((s : Nat) : Int) ((c : Nat) : Int)) (n := k) ?_ ?_ 0 (Nat.zero_le _)
    · refine Ev.step (fun q => culletlaw11_GenerAny.l3.eq_2 _ _ _ _ _ _ _ q) ?_
      simp only [if_neg (show ¬ ((k : Nat) : Int) < (k : Int) by omega), wr_up (n := s) (by omega)]
      exact nx
    · intro c hc nx2
      refine Ev.step (fun q => culletlaw11_GenerAny.l3.eq_2 _ _ _ _ _ _ _ q) ?_
      simp only [if_pos (show ((c : Nat) : Int) < (k : Int) by omega)]
      refine ev_up (L := fun q i => culletlaw11_GenerAny.l4 q (k : Int) (m : Int) (mt (k + m) k G) r (mt (k + m) k D) ((s : Nat) : Int) ((c : Nat) : Int) (((LA.sm i (fun i => D s i * G (nn r i) c)).1 : Nat) : Int) ((i : Nat) : Int)) (n := k) ?_ ?_ 0 (Nat.zero_le _)
      · refine Ev.step (fun q => culletlaw11_GenerAny.l4.eq_2 _ _ _ _ _ _ _ _ _ q) ?_
        simp only [q_rdY, if_neg (show ¬ ((k : Nat) : Int) < (k : Int) by omega), if_pos (show (0 : Int) ≤ (s : Int) by omega), mt_len, if_pos (show ((s : Nat) : Int) < ((k + m : Nat) : Int) by omega), if_pos (show (0 : Int) ≤ (c : Int) by omega), mt_row hs, rw8_len, if_pos (show ((c : Nat) : Int) < (k : Int) by omega), rw8_get hc, hD s c hs hc, if_true, wr_up (n := c) (by omega)]
        exact nx2
      · intro i hi nx3
        obtain ⟨u1, u2⟩ := rd_us k1 k2 m1 m2 r1 r2 hi
        refine Ev.step (fun q => culletlaw11_GenerAny.l4.eq_2 _ _ _ _ _ _ _ _ _ q) ?_
        simp only [q_rdY, if_pos (show ((i : Nat) : Int) < (k : Int) by omega), if_pos (show (0 : Int) ≤ (s : Int) by omega), mt_len, if_pos (show ((s : Nat) : Int) < ((k + m : Nat) : Int) by omega), if_pos (show (0 : Int) ≤ (i : Int) by omega), mt_row hs, rw8_len, if_pos (show ((i : Nat) : Int) < (r.length : Int) by omega), u1, if_pos (show (0 : Int) ≤ ((nn r i : Nat) : Int) by omega), if_pos (show ((nn r i : Nat) : Int) < ((k + m : Nat) : Int) by omega), if_pos (show (0 : Int) ≤ (c : Int) by omega), mt_row u2, if_pos (show ((c : Nat) : Int) < (k : Int) by omega), rw8_get hi, rw8_get hc]
        refine Ev.bind (Mul8 (D s i).2 (G (nn r i) c).2) ?_
        have e3 : Go.bits .xor .u8 (((LA.sm i (fun i => D s i * G (nn r i) c)).1 : Nat) : Int) ((m8 (D s i).1 (G (nn r i) c).1 : Nat) : Int) = (((LA.sm (i + 1) (fun i => D s i * G (nn r i) c)).1 : Nat) : Int) :=
          bits_xor8 (LA.sm i (fun i => D s i * G (nn r i) c)).2 (D s i * G (nn r i) c).2
        simp only [e3, wr_up (n := i) (by omega)]
        exact nx3
end
theorem main (fam : Bool) {k m : Nat} (k1 : 1 ≤ k) (k2 : k ≤ 24) (m1 : 1 ≤ m) (m2 : m ≤ 24) (pk : List Int) : Ev (fun r => culletlaw11_GenerAny.j0 r (k : Int) (m : Int) pk (famI fam)) true := by
  obtain ⟨r, hr, r1, r2⟩ := Chosen_of (n := k + m) (m := m) (by omega) (by omega) pk
  have r3 : r.length = k := by omega
  have hw : wrap64 ((k : Int) + (m : Int)) = ((k + m : Nat) : Int) := by rw [wrap64_id (by omega) (by omega)]; omega
  obtain ⟨p1, p2⟩ := nn_rise r1
  have hu : ∀ i, i < k → nn r i < k + m := fun i hi => p1 i (by omega)
  have hj : ∀ i j, i < k → j < k → nn r i = nn r j → i = j := fun i j a b => p2 i j (by omega) (by omega)
  have hpt : ∀ i j, i < k + m → j < k + m → t8 i = t8 j → i = j := fun i j a b => pt_inj i j (by omega) (by omega)
  refine Ev.step (fun q => culletlaw11_GenerAny.j0.eq_2 _ _ _ _ q) ?_
  refine Ev.bind (Generator_of fam k1 m1 (by omega)) ?_
  simp only [hw]
  refine Ev.bind hr ?_
  refine ev_up (L := fun q i => culletlaw11_GenerAny.l0 q (k : Int) (m : Int) (famI fam) (mt (k + m) k (gmat fam k)) 0 r (rg i) ((i : Nat) : Int)) (n := k + m) ?_ ?_ 0 (Nat.zero_le _)
  rotate_left
  · intro i hi nx
    refine Ev.step (fun q => culletlaw11_GenerAny.l0.eq_2 _ _ _ _ _ _ _ _ q) ?_
    simp only [hw, if_pos (show ((i : Nat) : Int) < ((k + m : Nat) : Int) by omega), rg_len, if_pos (show i < 17592186044416 by omega), rg_up, wr_up (n := i) (by omega)]
    exact nx
  refine Ev.step (fun q => culletlaw11_GenerAny.l0.eq_2 _ _ _ _ _ _ _ _ q) ?_
  simp only [hw, if_neg (show ¬ ((k + m : Nat) : Int) < ((k + m : Nat) : Int) by omega)]
  have D1 := Decoder_of fam k1 m1 (by omega) r1 (rg_rise (k + m)) (by omega)
  rw [rg_len] at D1
  have e1 : mt (k + m) k (fun a i => dmat fam k (nn r) (nn (rg (k + m)) a) i) = mt (k + m) k (fun s i => dmat fam k (nn r) s i) := mt_congr (fun a i ha hi => by
    have : nn (rg (k + m)) a = a := by unfold nn; rw [rg_get ha, Int.toNat_natCast]
    rw [this])
  rw [e1] at D1
  refine Ev.bind D1 ?_
  simp only [if_true, mt_len, bne_self_eq_false]
  refine Ev.step (fun q => culletlaw11_GenerAny.j2.eq_2 _ _ _ _ _ _ q) ?_
  simp only [Bool.false_eq_true, if_false]
  exact part1 k1 k2 m1 m2 r1 r3 (fun s c hs hc => LA.dm_row hpt (by omega) fam hu hj hs hc) (fun s i hs hi => dmat_unit fam (show k ≤ k + m by omega) (by omega) hu hj hs hi) (fun s i hs hi => gmat_top fam hs i)
theorem GenerAny : culletlaw11_GenerAny.Pure := by
  intro a b pk cau ha hb _ _ _
  apply Ev.rounds
  clear ha hb
  unfold culletlaw11_GenerAny.f
  refine Ev.bind Awake ?_
  obtain ⟨k, ek, k1, k2⟩ := into_is a (lo := 1) (hi := 24) (by decide) (by decide) (by decide)
  obtain ⟨k, rfl⟩ := Int.eq_ofNat_of_zero_le (show 0 ≤ k by omega)
  obtain ⟨m, em, m1, m2⟩ := into_is b (lo := 1) (hi := 24) (by decide) (by decide) (by decide)
  obtain ⟨m, rfl⟩ := Int.eq_ofNat_of_zero_le (show 0 ≤ m by omega)
  simp only [if_true, ek, em, Option.bind_some]
  cases cau with
  | true => simp only [if_true]; exact main true (by omega) (by omega) (by omega) (by omega) pk
  | false => simp only [Bool.false_eq_true, if_false]; exact main false (by omega) (by omega) (by omega) (by omega) pk
end Go.Proofs.Ytkdoilmfchlpdaa.Pure
