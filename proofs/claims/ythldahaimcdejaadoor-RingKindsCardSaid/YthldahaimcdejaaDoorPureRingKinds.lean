/-
RingKinds: every Irreducible, Order and Primitive of the script is the document's. No condition.
-/
import Derived.Test.YthldahaimcdejaaDoorRefRing3
import Derived.Test.YthldahaimcdejaaDoorRefRing4
import Derived.Test.YthldahaimcdejaaDoorKx3

namespace Go.Proofs.YthldahaimcdejaaDoor.Pure
open Go.RowKit Go.Proofs.YthldahaimcdejaaDoor.K Go.Proofs.YthldahaimcdejaaDoor.A Go.Proofs.YthldahaimcdejaaDoorW.PrintWords Go.Proofs.YthldahaimcdejaaDoorW.PrintLast Go.Proofs.YthldahaimcdejaaDoorW.PrintMore Go.Proofs.YthldahaimcdejaaDoor.R GP
set_option linter.unusedVariables false
set_option linter.unusedSimpArgs false
theorem all_l0 {l : List S26} {lo hi : Int} (hl : l.length * 48 ≤ 140737488351232) (h : ∀ x ∈ l, lo ≤ x.f0 → x.f0 ≤ hi → Ev (fun k => culletlaw01_plays.f k x.f0 x.f1 x.f2 x.f3 x.f4) true) :
    ∀ m j : Nat, l.length - j = m → j ≤ l.length → Ev (fun k => culletlaw01_all.l0 k lo hi l (l.length : Int) j) true := by
  intro m
  induction m with
  | zero =>
    intro j hm hj
    refine Ev.step (fun k => culletlaw01_all.l0.eq_2 _ _ _ _ _ k) ?_
    simp only [if_neg (show ¬ ((j : Nat) : Int) < (l.length : Nat) by omega)]
    exact Ev.now _
  | succ m ih =>
    intro j hm hj
    have hjl : j < l.length := by omega
    have ihj := ih (j + 1) (by omega) (by omega)
    refine Ev.step (fun k => culletlaw01_all.l0.eq_2 _ _ _ _ _ k) ?_
    have hx : rd_T26 l (j : Nat) = l[j] := by unfold rd_T26; rw [Int.toNat_natCast, List.getD_eq_getElem?_getD, List.getElem?_eq_getElem hjl]; rfl
    simp only [if_pos (show ((j : Nat) : Int) < (l.length : Nat) by omega), if_pos (show (0 : Int) ≤ ((j : Nat) : Int) by omega), hx]
    rw [wrap64_id (by omega) (by omega), show (j : Int) + 1 = ((j + 1 : Nat) : Int) by omega]
    by_cases h1 : l[j].f0 ≥ lo
    · simp only [if_pos h1]
      by_cases h2 : l[j].f0 ≤ hi
      · simp only [if_pos h2]
        refine Ev.bind (h _ (List.getElem_mem hjl) h1 h2) ?_
        simp only [if_true]
        exact ihj
      · simp only [if_neg h2]
        exact ihj
    · simp only [if_neg h1]
      exact ihj
theorem all_ok {l : List S26} {lo hi : Int} (hl : l.length * 48 ≤ 140737488351232) (h : ∀ x ∈ l, lo ≤ x.f0 → x.f0 ≤ hi → Ev (fun k => culletlaw01_plays.f k x.f0 x.f1 x.f2 x.f3 x.f4) true) :
    Ev (fun k => culletlaw01_all.f k l lo hi) true := all_l0 hl h _ 0 rfl (Nat.zero_le _)
theorem no_pow {a p : Nat} (hp : 2 ≤ bl p) (hg : pgcd a p ≠ 1) {j : Nat} (hj : 1 ≤ j) : pmod (pp a j) p ≠ 1 := by
  have hp0 : p ≠ 0 := bl_pos.1 (by omega)
  intro e
  apply hg
  have h1 : Dv (pgcd a p) (pp a j) := by
    obtain ⟨i, rfl⟩ : ∃ i, j = i + 1 := ⟨j - 1, by omega⟩
    rw [pp_succ]
    exact (pgcd_dv_left a p).mul_left _
  have h2 : Dv (pgcd a p) (pp a j ^^^ pmod (pp a j) p) := (pgcd_dv_right a p).trans (dv_xor_pmod hp0 _)
  have h3 := Dv.xor h1 h2
  rw [← Nat.xor_assoc, Nat.xor_self, Nat.zero_xor, e] at h3
  exact h3.antisymm (Dv.one _)
theorem ord_lt {d N : Nat} (h16 : d ≤ 16) (h : N < 2 ^ d) : N < 65536 := Nat.lt_of_lt_of_le h (Nat.pow_le_pow_right (n := 2) (by decide) h16)
theorem kinds_ok (kd : Int) {a c : Nat} (b : Int) (s : ByteArray) (ha : a < 2 ^ 64) (hc : c < 2 ^ 64) : Ev (fun k => culletlaw01_kinds.f k kd a b c s) true := by
  unfold culletlaw01_kinds.f
  by_cases h1 : kd = 9
  · simp only [if_pos h1]
    by_cases hm : 2 ≤ bl c ∧ bl c ≤ 33
    · by_cases hi : Irr c
      · refine Ev.bind (Irreducible_true hm.1 hm.2 ((rabin_iff hm.1).2 hi)) ?_
        refine Ev.bind ((rIrreducible hm.1 hm.2).1 hi) ?_
        simp only [if_true, beq_self_eq_true]
        exact Ev.now _
      · refine Ev.bind (Irreducible_false hm.1 hm.2 (mt (rabin_iff hm.1).1 hi)) ?_
        refine Ev.bind ((rIrreducible hm.1 hm.2).2 hi) ?_
        simp only [if_true, beq_self_eq_true]
        exact Ev.now _
    · refine Ev.bind (Irreducible_none hc hm) ?_
      refine Ev.bind (rIrreducible_no hc hm) ?_
      simp only [if_true, beq_self_eq_true]
      exact Ev.now _
  · simp only [if_neg h1]
    by_cases hm : 2 ≤ bl c ∧ bl c ≤ 17
    · obtain ⟨d, hd⟩ : ∃ d, bl c = d + 1 := ⟨bl c - 1, by omega⟩
      by_cases h2 : kd = 10
      · simp only [if_pos h2]
        by_cases hg : pgcd a c = 1
        · obtain ⟨M, hM, hM2⟩ := isOrd_exists hd (by omega) hg
          have hM3 := ord_lt (by omega) hM2
          refine Ev.bind (Order ha hm.1 hm.2 hg hM (by omega)) ?_
          refine Ev.bind (rOrder ha hm.1 hm.2 hg hM hM3) ?_
          simp only [if_true, beq_self_eq_true]
          exact Ev.now _
        · refine Ev.bind (Order_no ha hm.1 hm.2 hg) ?_
          refine Ev.bind (rOrder_non ha hm.1 hm.2 hg) ?_
          simp only [if_true, beq_self_eq_true]
          exact Ev.now _
      · simp only [if_neg h2]
        by_cases hi : Irr c
        · have hr := (rabin_iff hm.1).2 hi
          by_cases hg : pgcd 2 c = 1
          · obtain ⟨M, hM, hM2⟩ := isOrd_exists hd (by omega) hg
            have hM3 := ord_lt (by omega) hM2
            refine Ev.bind (Primitive_irr hd (by omega) (by omega) hr M 0 (Order (by decide) hm.1 hm.2 hg hM (by omega))) ?_
            refine Ev.bind (rPrimitive_irr hd (by omega) (by omega) hi M (rorder (by decide) hm.1 (by omega) hM hM3)) ?_
            simp only [true_and, if_true, beq_self_eq_true]
            exact Ev.now _
          · refine Ev.bind (Primitive_irr hd (by omega) (by omega) hr 0 12 (Order_no (by decide) hm.1 hm.2 hg)) ?_
            refine Ev.bind (rPrimitive_irr hd (by omega) (by omega) hi 0 (rorder_zero (by decide) hm.1 (by omega) (fun j hj _ => no_pow hm.1 hg hj))) ?_
            have hp2 : 2 ≤ 2 ^ d := Nat.pow_le_pow_right (n := 2) (by decide) (show 1 ≤ d by omega)
            simp only [decide_eq_false (show ¬ ((12 : Int) = 0 ∧ (0 : Int) = ((2 ^ d - 1 : Nat) : Int)) by omega), decide_eq_false (show ¬ ((0 : Int) = ((2 ^ d - 1 : Nat) : Int)) by omega), if_true, beq_self_eq_true]
            exact Ev.now _
        · refine Ev.bind (Primitive_red hm.1 hm.2 (mt (rabin_iff hm.1).1 hi)) ?_
          refine Ev.bind (rPrimitive_red hm.1 hm.2 hi) ?_
          simp only [if_true, beq_self_eq_true]
          exact Ev.now _
    · by_cases h2 : kd = 10
      · simp only [if_pos h2]
        refine Ev.bind (Order_none hc hm) ?_
        refine Ev.bind (rOrder_no _ hc hm) ?_
        simp only [if_true, beq_self_eq_true]
        exact Ev.now _
      · simp only [if_neg h2]
        refine Ev.bind (Primitive_none hc hm) ?_
        refine Ev.bind (rPrimitive_no hc hm) ?_
        simp only [if_true, beq_self_eq_true]
        exact Ev.now _
theorem RingKinds : culletlaw01_RingKinds.Pure := by
  intro l h
  obtain ⟨hl, hok⟩ := h
  apply Ev.rounds
  unfold culletlaw01_RingKinds.f
  refine Ev.bind (kinds_ok 10 (a := 2) (c := 285) 0 _ (by decide) (by decide)) ?_
  simp only [if_true]
  refine Ev.bind (kinds_ok 9 (a := 0) (c := 7) 0 _ (by decide) (by decide)) ?_
  simp only [if_true]
  refine Ev.bind (all_ok hl (fun x hx h1 h2 => ?_)) (Ev.now _)
  obtain ⟨w0, w1, w2, w3, w4⟩ := hok x hx
  obtain ⟨a, ea, ha⟩ := of_u64 w1
  obtain ⟨c, ec, hc⟩ := of_u64 w3
  rw [ea, ec]
  have key := kinds_ok x.f0 x.f2 x.f4 ha hc
  have st3 : Ev (fun k => culletlaw01_plays.j3 k x.f0 true x.f0 a x.f2 c x.f4) true :=
    Ev.step (fun k => culletlaw01_plays.j3.eq_2 _ _ _ _ _ _ _ k) (by simp only [if_true]; exact Ev.bind key (Ev.now _))
  have hk : x.f0 = 9 ∨ x.f0 = 10 ∨ x.f0 = 11 := by omega
  have st2 : Ev (fun k => culletlaw01_plays.j2 k x.f0 false x.f0 a x.f2 c x.f4) true := by
    refine Ev.step (fun k => culletlaw01_plays.j2.eq_2 _ _ _ _ _ _ _ k) ?_
    rcases hk with e | e | e
    all_goals
      rw [e] at st3
      simp only [e, Bool.false_eq_true, if_false, if_true, if_neg (show ¬ ((10 : Int) = 9) by omega), if_neg (show ¬ ((11 : Int) = 9) by omega), if_neg (show ¬ ((11 : Int) = 10) by omega), beq_self_eq_true]
      exact st3
  have st1 : Ev (fun k => culletlaw01_plays.j1 k x.f0 false x.f0 a x.f2 c x.f4) true := by
    refine Ev.step (fun k => culletlaw01_plays.j1.eq_2 _ _ _ _ _ _ _ k) ?_
    have e8 : (x.f0 == 8) = false := beq_eq_false_iff_ne.2 (by omega)
    simp only [Bool.false_eq_true, if_false, if_neg (show ¬ x.f0 = 6 by omega), if_neg (show ¬ x.f0 = 7 by omega), e8]
    exact st2
  have st0 : Ev (fun k => culletlaw01_plays.j0 k x.f0 false x.f0 a x.f2 c x.f4) true := by
    refine Ev.step (fun k => culletlaw01_plays.j0.eq_2 _ _ _ _ _ _ _ k) ?_
    have e5 : (x.f0 == 5) = false := beq_eq_false_iff_ne.2 (by omega)
    simp only [Bool.false_eq_true, if_false, if_neg (show ¬ x.f0 = 4 by omega), e5]
    exact st1
  unfold culletlaw01_plays.f
  have e3 : (x.f0 == 3) = false := beq_eq_false_iff_ne.2 (by omega)
  simp only [if_neg (show ¬ x.f0 = 1 by omega), if_neg (show ¬ x.f0 = 2 by omega), e3]
  exact st0
end Go.Proofs.YthldahaimcdejaaDoor.Pure
