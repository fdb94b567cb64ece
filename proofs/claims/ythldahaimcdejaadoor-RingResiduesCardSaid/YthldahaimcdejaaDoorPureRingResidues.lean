/-
RingResidues: every MulMod, PowMod and InvMod of the script is the document's. No condition.
-/
import Derived.Test.YthldahaimcdejaaDoorRefRing3
import Derived.Test.YthldahaimcdejaaDoorRefRing4
import Derived.Test.YthldahaimcdejaaDoorRx3

namespace Go.Proofs.YthldahaimcdejaaDoor.Pure
open Go.RowKit Go.Proofs.YthldahaimcdejaaDoor.R Go.Proofs.YthldahaimcdejaaDoor.A Go.Proofs.YthldahaimcdejaaDoorW.PrintWords Go.Proofs.YthldahaimcdejaaDoorW.PrintLast Go.Proofs.YthldahaimcdejaaDoorW.PrintMore Go.Proofs.YthldahaimcdejaaDoor.R GP
set_option linter.unusedVariables false
set_option linter.unusedSimpArgs false
theorem all_l0 {l : List S26} {lo hi : Int} (hl : l.length * 48 ≤ 140737488351232) (h : ∀ x ∈ l, lo ≤ x.f0 → x.f0 ≤ hi → Ev (fun k => culletlaw01_plays.f k x.f0 x.f1 x.f2 x.f3 x.f4) true) :
    ∀ m j : Nat, l.length - j = m → j ≤ l.length → Ev (fun k => culletlaw01_all.l0 k lo hi l (l.length : Int) j) true := by
  intro m
  induction m with
  | zero =>
    intro j hm hj
    refine Ev.step (fun k => culletlaw01_all.l0.eq_2 _ _ _ _ _ k) ?_
    simp only [if_neg (show ¬ ((j : Nat) : Int) < (l.length : Nat) by omega)]
    exact Ev.now _
  | succ m ih =>
    intro j hm hj
    have hjl : j < l.length := by omega
    have ihj := ih (j + 1) (by omega) (by omega)
    refine Ev.step (fun k => culletlaw01_all.l0.eq_2 _ _ _ _ _ k) ?_
    have hx : rd_T26 l (j : Nat) = l[j] := by unfold rd_T26; rw [Int.toNat_natCast, List.getD_eq_getElem?_getD, List.getElem?_eq_getElem hjl]; rfl
    simp only [if_pos (show ((j : Nat) : Int) < (l.length : Nat) by omega), if_pos (show (0 : Int) ≤ ((j : Nat) : Int) by omega), hx]
    rw [wrap64_id (by omega) (by omega), show (j : Int) + 1 = ((j + 1 : Nat) : Int) by omega]
    by_cases h1 : l[j].f0 ≥ lo
    · simp only [if_pos h1]
      by_cases h2 : l[j].f0 ≤ hi
      · simp only [if_pos h2]
        refine Ev.bind (h _ (List.getElem_mem hjl) h1 h2) ?_
        simp only [if_true]
        exact ihj
      · simp only [if_neg h2]
        exact ihj
    · simp only [if_neg h1]
      exact ihj
theorem all_ok {l : List S26} {lo hi : Int} (hl : l.length * 48 ≤ 140737488351232) (h : ∀ x ∈ l, lo ≤ x.f0 → x.f0 ≤ hi → Ev (fun k => culletlaw01_plays.f k x.f0 x.f1 x.f2 x.f3 x.f4) true) :
    Ev (fun k => culletlaw01_all.f k l lo hi) true := all_l0 hl h _ 0 rfl (Nat.zero_le _)
theorem inv_same {a p q u : Nat} (hp0 : p ≠ 0) (hq : bl q < bl p) (hu : bl u < bl p) (h1 : pmod (cl q a) p = 1) (h2 : pmod (cl u a) p = 1) : q = u := by
  have e1 : pmod (cl q (cl u a)) p = q := by
    rw [← pmod_cl_right hp0, h2, cl_one, pmod_small hq]
  have e2 : pmod (cl u (cl q a)) p = u := by
    rw [← pmod_cl_right hp0, h1, cl_one, pmod_small hu]
  rw [cl_left_comm] at e1
  rw [← e1, e2]
theorem residues_ok (kd : Int) {a b c : Nat} (s : ByteArray) (ha : a < 2 ^ 64) (hb : b < 2 ^ 64) (hc : c < 2 ^ 64) : Ev (fun k => culletlaw01_residues.f k kd a b c s) true := by
  unfold culletlaw01_residues.f
  by_cases hm : 2 ≤ bl c ∧ bl c ≤ 33
  · obtain ⟨hp, hp2⟩ := hm
    have hp0 : c ≠ 0 := bl_pos.1 (by omega)
    by_cases h1 : kd = 6
    · simp only [if_pos h1]
      refine Ev.bind (MulMod ha hb hp hp2) ?_
      refine Ev.bind (rMulMod ha hb hp hp2) ?_
      simp only [if_true, beq_self_eq_true]
      exact Ev.now _
    · simp only [if_neg h1]
      by_cases h2 : kd = 7
      · simp only [if_pos h2]
        refine Ev.bind (PowMod ha hb hp hp2) ?_
        refine Ev.bind (rPowMod ha hb hp hp2) ?_
        simp only [if_true, beq_self_eq_true]
        exact Ev.now _
      · simp only [if_neg h2]
        rcases InvMod ha hp hp2 with ⟨hg, q, hq, hq1, hE⟩ | ⟨hg, hE⟩
        · rcases rInvMod ha hp hp2 with ⟨u, hu, hu1, hF⟩ | ⟨hn, hF⟩
          · obtain rfl := inv_same hp0 hq hu hq1 hu1
            refine Ev.bind hE ?_
            refine Ev.bind hF ?_
            simp only [if_true, beq_self_eq_true]
            exact Ev.now _
          · exact absurd hq1 (hn q hq)
        · rcases rInvMod ha hp hp2 with ⟨u, hu, hu1, hF⟩ | ⟨hn, hF⟩
          · exfalso
            apply hg
            have h3 : Dv (pgcd a c) 1 := by
              have h4 := pgcd_dv_left a c
              have h5 := pgcd_dv_right a c
              have h6 := dv_xor_pmod hp0 (cl u a)
              rw [hu1] at h6
              have h7 := h5.trans h6
              have h8 := h4.mul_left u
              have := Dv.xor h8 h7
              rwa [← Nat.xor_assoc, Nat.xor_self, Nat.zero_xor] at this
            exact h3.antisymm (Dv.one _)
          · refine Ev.bind hE ?_
            refine Ev.bind hF ?_
            simp only [if_true, beq_self_eq_true]
            exact Ev.now _
  · have hm' : ¬ (2 ≤ bl c ∧ bl c ≤ 32 + 1) := hm
    have hno := not_mod hc (m := 32) hm'
    simp only [show ((32 : Nat) : Int) = 32 from rfl] at hno
    by_cases h1 : kd = 6
    · simp only [if_pos h1]
      unfold ring_MulMod.f
      simp only [hno, Option.bind_some, Bool.false_eq_true, if_false]
      refine Ev.bind (rMulMod_no _ _ hc hm) ?_
      simp only [if_true, beq_self_eq_true]
      exact Ev.now _
    · simp only [if_neg h1]
      by_cases h2 : kd = 7
      · simp only [if_pos h2]
        unfold ring_PowMod.f
        simp only [hno, Option.bind_some, Bool.false_eq_true, if_false]
        refine Ev.bind (rPowMod_no _ _ hc hm) ?_
        simp only [if_true, beq_self_eq_true]
        exact Ev.now _
      · simp only [if_neg h2]
        unfold ring_InvMod.f
        simp only [hno, Option.bind_some, Bool.false_eq_true, if_false]
        refine Ev.bind (rInvMod_no _ hc hm) ?_
        simp only [if_true, beq_self_eq_true]
        exact Ev.now _
theorem RingResidues : culletlaw01_RingResidues.Pure := by
  intro l h
  obtain ⟨hl, hok⟩ := h
  apply Ev.rounds
  unfold culletlaw01_RingResidues.f
  refine Ev.bind (residues_ok 8 (a := 2) (b := 0) (c := 65581) _ (by decide) (by decide) (by decide)) ?_
  simp only [if_true]
  refine Ev.bind R.awake ?_
  simp only [if_true]
  refine Ev.bind (all_ok hl (fun x hx h1 h2 => ?_)) (Ev.now _)
  obtain ⟨w0, w1, w2, w3, w4⟩ := hok x hx
  obtain ⟨a, ea, ha⟩ := of_u64 w1
  obtain ⟨b, eb, hb⟩ := of_u64 w2
  obtain ⟨c, ec, hc⟩ := of_u64 w3
  rw [ea, eb, ec]
  have key := residues_ok x.f0 x.f4 ha hb hc
  have st2 : Ev (fun k => culletlaw01_plays.j2 k x.f0 true x.f0 a b c x.f4) true :=
    Ev.step (fun k => culletlaw01_plays.j2.eq_2 _ _ _ _ _ _ _ k) (by simp only [if_true]; exact Ev.bind key (Ev.now _))
  have hk : x.f0 = 6 ∨ x.f0 = 7 ∨ x.f0 = 8 := by omega
  have st1 : Ev (fun k => culletlaw01_plays.j1 k x.f0 false x.f0 a b c x.f4) true := by
    refine Ev.step (fun k => culletlaw01_plays.j1.eq_2 _ _ _ _ _ _ _ k) ?_
    rcases hk with e | e | e
    all_goals
      rw [e] at st2
      simp only [e, Bool.false_eq_true, if_false, if_true, if_neg (show ¬ ((7 : Int) = 6) by omega), if_neg (show ¬ ((8 : Int) = 6) by omega), if_neg (show ¬ ((8 : Int) = 7) by omega), beq_self_eq_true]
      exact st2
  have st0 : Ev (fun k => culletlaw01_plays.j0 k x.f0 false x.f0 a b c x.f4) true := by
    refine Ev.step (fun k => culletlaw01_plays.j0.eq_2 _ _ _ _ _ _ _ k) ?_
    have e5 : (x.f0 == 5) = false := beq_eq_false_iff_ne.2 (by omega)
    simp only [Bool.false_eq_true, if_false, if_neg (show ¬ x.f0 = 4 by omega), e5]
    exact st1
  unfold culletlaw01_plays.f
  have e3 : (x.f0 == 3) = false := beq_eq_false_iff_ne.2 (by omega)
  simp only [if_neg (show ¬ x.f0 = 1 by omega), if_neg (show ¬ x.f0 = 2 by omega), e3]
  exact st0
end Go.Proofs.YthldahaimcdejaaDoor.Pure
