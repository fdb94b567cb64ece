/-
GenerMore: present shards behind the first k say nothing; one too few is refused; the generator is the identity and Parity.
-/
import Derived.Test.YtkdoilmfchlpdaaZ9
import Derived.Test.YtkdoilmfchlpdaaKx2

namespace Go.Proofs.Ytkdoilmfchlpdaa.Pure
open Go.RowKit Go.Proofs.Ytkdoilmfchlpdaa.K Go.Proofs.Ytkdoilmfchlpdaa.A Go.Proofs.Ytkdoilmfchlpdaa.B Go.Proofs.YtkdoilmfchlpdaaW.PrintWords Go.Proofs.YtkdoilmfchlpdaaW.PrintLast Go.Proofs.YtkdoilmfchlpdaaW.PrintMore Go.Proofs.Ytkdoilmfchlpdaa.R Go.Proofs.Ytkdoilmfchlpdaa.RI
set_option linter.unusedVariables false
set_option linter.unusedSimpArgs false
theorem main (fam : Bool) {k m : Nat} (k1 : 1 ≤ k) (k2 : k ≤ 40) (m1 : 1 ≤ m) (m2 : m ≤ 40) (pk : List Int) : Ev (fun r => culletlaw11_GenerMore.j0 r (k : Int) (m : Int) pk (famI fam)) true := by
  obtain ⟨t, et, t1, t2⟩ := into_is (pk.length : Int) (lo := 0) (hi := (m : Int)) (by omega) (by decide) (by omega)
  obtain ⟨t, rfl⟩ := Int.eq_ofNat_of_zero_le t1
  obtain ⟨r, hr, r1, r2⟩ := Chosen_of (n := k + m) (m := t) (by omega) (by omega) pk
  have hw : wrap64 ((k : Int) + (m : Int)) = ((k + m : Nat) : Int) := by rw [wrap64_id (by omega) (by omega)]; omega
  have hl : gener_Lost.f ((k + m : Nat) : Int) r = some (miss r (k + m), 0) := by
    unfold gener_Lost.f
    rw [if_pos (by omega), if_pos ⟨by omega, by omega⟩, if_pos r1, Int.toNat_natCast]
  have ml := miss_len r1
  have e1 : (((miss r (k + m)).length : Int) != wrap64 (((k + m : Nat) : Int) - (r.length : Int))) = false := by
    rw [wrap64_id (by omega) (by omega), bne_eq_false_iff_eq]; omega
  refine Ev.step (fun q => culletlaw11_GenerMore.j0.eq_2 _ _ _ _ q) ?_
  simp only [et, Option.bind_some, hw]
  refine Ev.bind hr ?_
  simp only [hl, Option.bind_some, if_true, e1]
  have w1 : riB ((k + m : Nat) : Int) (miss r (k + m)) = true := miss_rise _ _
  obtain ⟨w, hwd⟩ : ∃ w, w = miss r (k + m) := ⟨_, rfl⟩
  rw [← hwd] at w1 ml ⊢
  clear hwd hl e1
  have D1 := Decoder_of fam k1 m1 (by omega) r1 w1 (by omega)
  have D2 := Decoder_of fam k1 m1 (by omega) (riB_take r1 k) w1 (by rw [List.length_take]; omega)
  have D3 := Decoder_few fam k1 m1 (by omega) (riB_take r1 (k - 1)) w1 (by rw [List.length_take]; omega)
  have e2 : mt w.length k (fun a i => dmat fam k (nn (r.take k)) (nn w a) i) = mt w.length k (fun a i => dmat fam k (nn r) (nn w a) i) := mt_congr (fun a i ha hi => dmat_congr fam (fun i hi => nn_take r hi) _ hi)
  rw [e2] at D2
  refine Ev.step (fun q => culletlaw11_GenerMore.j1.eq_2 _ _ _ _ _ _ q) ?_
  simp only [Bool.false_eq_true, if_false]
  refine Ev.bind D1 ?_
  simp only [if_pos (show (0 : Int) ≤ (k : Int) by omega), if_pos (show (k : Int) ≤ (r.length : Int) by omega), Int.toNat_natCast]
  refine Ev.bind D2 ?_
  simp only [wrap64_id (n := (k : Int) - 1) (by omega) (by omega), if_pos (show (0 : Int) ≤ (k : Int) - 1 by omega), if_pos (show (k : Int) - 1 ≤ (r.length : Int) by omega), show ((k : Int) - 1).toNat = k - 1 by omega]
  refine Ev.bind D3 ?_
  simp only [if_true, List.length_nil, if_pos (show ((0 : Nat) : Int) = 0 from rfl)]
  refine Ev.bind (Equal_mt _ (by omega) (by omega)) ?_
  simp only [if_true, mt_len, bne_self_eq_false]
  refine Ev.step (fun q => culletlaw11_GenerMore.j2.eq_2 _ _ _ _ q) ?_
  simp only [Bool.false_eq_true, if_false]
  refine Ev.bind (Parity_of fam k1 m1 (by omega)) ?_
  refine Ev.bind (Generator_of fam k1 m1 (by omega)) ?_
  simp only [if_true, mt_len, hw, if_pos (show (0 : Int) ≤ (k : Int) by omega), if_pos (show (k : Int) ≤ ((k + m : Nat) : Int) by omega), Int.toNat_natCast, mt_drop]
  exact Ev.bind (Equal_mt _ (by omega) (by omega)) (Ev.now _)
theorem GenerMore : culletlaw11_GenerMore.Pure := by
  intro a b pk cau ha hb _ _ _
  apply Ev.rounds
  clear ha hb
  unfold culletlaw11_GenerMore.f
  refine Ev.bind Awake ?_
  obtain ⟨k, ek, k1, k2⟩ := into_is a (lo := 1) (hi := 40) (by decide) (by decide) (by decide)
  obtain ⟨k, rfl⟩ := Int.eq_ofNat_of_zero_le (show 0 ≤ k by omega)
  obtain ⟨m, em, m1, m2⟩ := into_is b (lo := 1) (hi := 40) (by decide) (by decide) (by decide)
  obtain ⟨m, rfl⟩ := Int.eq_ofNat_of_zero_le (show 0 ≤ m by omega)
  simp only [if_true, ek, em, Option.bind_some]
  cases cau with
  | true => simp only [if_true]; exact main true (by omega) (by omega) (by omega) (by omega) pk
  | false => simp only [Bool.false_eq_true, if_false]; exact main false (by omega) (by omega) (by omega) (by omega) pk
end Go.Proofs.Ytkdoilmfchlpdaa.Pure
