/- The document's locator is the locator. -/
import Derived.Test.YtklkcenffajfeaaRefLoc
import Derived.Test.YtklkcenffajfeaaRefConv
import Derived.Test.YtklkcenffajfeaaQx4
import Derived.Test.YtklkcenffajfeaaQx5

namespace Go.Proofs.Ytklkcenffajfeaa.R
open Go.RowKit Go.Proofs.YtklkcenffajfeaaW.PrintWords Go.Proofs.YtklkcenffajfeaaW.PrintLast Go.Proofs.YtklkcenffajfeaaW.PrintMore Go.Proofs.Ytklkcenffajfeaa.A Go.Proofs.Ytklkcenffajfeaa.F Go.Proofs.Ytklkcenffajfeaa.G Go.Proofs.Ytklkcenffajfeaa.A Go.Proofs.Ytklkcenffajfeaa.Q Go.Proofs.Ytklkcenffajfeaa.RI WH
set_option linter.unusedVariables false
set_option linter.unusedSimpArgs false
theorem slg_bound {r : Nat} (hr : r ≤ 16) (l : List Int) (hl : ∀ k, k < l.length → 0 ≤ l.getD k 0 ∧ l.getD k 0 < ((2 ^ r : Nat) : Int)) {i : Nat} (hi : i < 2 ^ r) : ∀ k, k ≤ l.length → slg l i k ≤ 65535 * k := by
  have h16 : 2 ^ r ≤ 65536 := show 2 ^ r ≤ 2 ^ 16 from Nat.pow_le_pow_right (by decide) hr
  intro k
  induction k with
  | zero => intro _; exact Nat.le_refl _
  | succ k ih =>
    intro hk
    have h1 := ih (by omega)
    show slg l i k + (lgE (i ^^^ (l.getD k 0).toNat)).toNat ≤ _
    have : (lgE (i ^^^ (l.getD k 0).toNat)).toNat ≤ 65535 := by
      unfold lgE
      split
      · omega
      · have := lgN_lt (GP.wel_lt (i ^^^ (l.getD k 0).toNat)); omega
    omega
/-- What Locator answers. -/
def locA (l : List Int) (r : Int) : List Int × Int := if 0 ≤ r ∧ r ≤ 16 then (if losB (2 ^ r.toNat) l = true then (lst (2 ^ r.toNat) (locL l r.toNat), 0) else ([], 31)) else ([], 7)
theorem L_of {l : List Int} {r : Int} (hl : l.length ≤ 1152921504606846976) : walsh_locator.f l r = some (locA l r) := by
  unfold walsh_locator.f locA
  by_cases h : 0 ≤ r ∧ r ≤ 16
  · rw [if_pos h, if_pos h]
    by_cases h2 : losB (2 ^ r.toNat) l = true
    · have : l.length ≤ 65536 := Nat.le_trans (losB_len h2) (show 2 ^ r.toNat ≤ 2 ^ 16 from Nat.pow_le_pow_right (by decide) (by omega))
      rw [if_pos h2, if_pos h2, if_pos this]
    · rw [if_neg h2, if_neg h2, if_pos hl]
  · rw [if_neg h, if_neg h]
theorem RefLocator {l : List Int} {r : Int} (hl : l.length < 2 ^ 60) : Ev (fun k => culletref15_Locator.f k l r) (locA l r) := by
  unfold culletref15_Locator.f locA
  by_cases hr : 0 ≤ r ∧ r ≤ 16
  rotate_left
  · rw [if_neg hr]
    have fin : Ev (fun k => culletref15_Locator.j0 k l r true) (([] : List Int), (7 : Int)) := by
      refine Ev.step (fun k => culletref15_Locator.j0.eq_2 _ _ _ k) ?_
      simp only [if_true]
      exact Ev.now _
    by_cases h0 : r < 0
    · simp only [if_pos h0]; exact fin
    · simp only [if_neg h0, show decide (r > 16) = true from decide_eq_true (by omega)]; exact fin
  rw [if_pos hr]
  obtain ⟨r, rfl⟩ := Int.eq_ofNat_of_zero_le hr.1
  have hr16 : r ≤ 16 := by omega
  have h16 : 2 ^ r ≤ 65536 := show 2 ^ r ≤ 2 ^ 16 from Nat.pow_le_pow_right (by decide) hr16
  have hp0 : 0 < 2 ^ r := Nat.two_pow_pos r
  rw [Int.toNat_natCast]
  simp only [if_neg (show ¬ ((r : Nat) : Int) < 0 by omega), show decide (((r : Nat) : Int) > 16) = false from decide_eq_false (by omega)]
  refine Ev.step (fun k => culletref15_Locator.j0.eq_2 _ _ _ k) ?_
  simp only [Bool.false_eq_true, if_false]
  refine Ev.bind (RefLost hr16 hl) ?_
  by_cases hlo : losB (2 ^ r) l = true
  rotate_left
  · rw [if_neg hlo]
    simp only [if_neg hlo]
    exact Ev.now _
  rw [if_pos hlo]
  simp only [if_pos hlo]
  refine Ev.bind (RefLogs hr16) ?_
  have hli := losB_iff.1 hlo
  have hll := losB_len hlo
  obtain ⟨hs0, -⟩ := shl_two hr16
  obtain ⟨sv, hsv⟩ : ∃ sv, shl .i64 (l.length : Int) (IntKind.u64.wrap ((r : Nat) : Int)) = sv := ⟨_, rfl⟩
  simp only [if_pos hs0, hsv, lst_len]
  obtain ⟨hpw1, hpw2⟩ := pwB_pow hr16
  by_cases hb : sv > 4194304
  · simp only [if_pos hb, if_pos (show (0 : Int) ≤ ((2 ^ r : Nat) : Int) by omega), Int.toNat_natCast, if_pos (show 2 ^ r ≤ 140737488355328 by omega)]
    have e0 : List.replicate (2 ^ r) (0 : Int) = lst (2 ^ r) (mk l 0) := by
      rw [lst_zero (2 ^ r) (fun _ => 0)]
      exact lst_congr (fun j _ => by rw [if_neg (by omega), mk_zero])
    rw [e0]
    refine ev_up (L := fun k i => culletref15_Locator.l0 k (lst (2 ^ r) lgE) (lst (2 ^ r) (mk l i)) l (l.length : Int) ((i : Nat) : Int)) (n := l.length) ?_ ?_ 0 (Nat.zero_le _)
    · refine Ev.step (fun k => culletref15_Locator.l0.eq_2 _ _ _ _ _ k) ?_
      simp only [if_neg (show ¬ ((l.length : Nat) : Int) < (l.length : Int) by omega)]
      have ok1 : okW (lst (2 ^ r) (mk l l.length)) = true := okW_lst (fun i _ => by unfold mk; split <;> omega)
      have ok2 : okW (lst (2 ^ r) lgE) = true := okW_lst (fun i _ => by
        unfold lgE
        split
        · omega
        · have := lgN_lt (GP.wel_lt i); omega)
      have hc := RefConvolve ok1 ok2 (by rw [lst_len]; omega)
      simp only [lst_len, hpw1, and_self, if_true, hpw2] at hc
      refine Ev.bind hc ?_
      have e1 : lst (2 ^ r) (fun i => md (cv r (vl (lst (2 ^ r) (mk l l.length))) (vl (lst (2 ^ r) lgE)) i)) = lst (2 ^ r) (locL l r) := lst_congr (fun i hi => by
        unfold locL
        congr 1
        unfold cv
        refine si_congr (fun j hj => ?_)
        show (lst (2 ^ r) (mk l l.length)).getD j 0 * (lst (2 ^ r) lgE).getD (i ^^^ j) 0 = _
        rw [lst_getD hj, lst_getD (Nat.xor_lt_two_pow hi hj)])
      rw [e1]
      exact Ev.now _
    · intro i hi nx
      refine Ev.step (fun k => culletref15_Locator.l0.eq_2 _ _ _ _ _ k) ?_
      obtain ⟨g1, g2, -⟩ := hli i hi
      obtain ⟨a, ha⟩ := Int.eq_ofNat_of_zero_le g1
      have e1 : lst (2 ^ r) (fun x => if x = a then 1 else mk l i x) = lst (2 ^ r) (mk l (i + 1)) := lst_congr (fun j _ => (mk_succ hi ha j).symm)
      simp only [if_pos (show ((i : Nat) : Int) < (l.length : Int) by omega), if_pos (show (0 : Int) ≤ (i : Int) by omega), rd_nat, ha, if_pos (show (0 : Int) ≤ (a : Int) by omega), lst_len, if_pos (show ((a : Nat) : Int) < ((2 ^ r : Nat) : Int) by omega), Int.toNat_natCast, lst_set, e1, wr_up (n := i) (by omega)]
      exact nx
  · simp only [if_neg hb, if_pos (show (0 : Int) ≤ ((2 ^ r : Nat) : Int) by omega), Int.toNat_natCast, if_pos (show 2 ^ r ≤ 35184372088832 by omega), Option.bind_some, List.length_replicate]
    rw [lst_zero (2 ^ r) (fun i => ((slg l i l.length : Nat) : Int))]
    refine ev_up (L := fun k i => culletref15_Locator.l1 k l (lst (2 ^ r) lgE) (lst (2 ^ r) (fun j => if j < i then ((slg l j l.length : Nat) : Int) else 0)) ((2 ^ r : Nat) : Int) ((i : Nat) : Int)) (n := 2 ^ r) ?_ ?_ 0 (Nat.zero_le _)
    · refine Ev.step (fun k => culletref15_Locator.l1.eq_2 _ _ _ _ _ k) ?_
      simp only [if_neg (show ¬ ((2 ^ r : Nat) : Int) < ((2 ^ r : Nat) : Int) by omega), lst_done]
      refine Ev.bind (RefWords h16 _) ?_
      have e1 : lst (2 ^ r) (fun i => md ((slg l i l.length : Nat) : Int)) = lst (2 ^ r) (locL l r) := lst_congr (fun i hi => by
        unfold locL
        rw [cv_mk hlo i l.length (Nat.le_refl _)])
      rw [e1]
      exact Ev.now _
    · intro i hi nx
      refine Ev.step (fun k => culletref15_Locator.l1.eq_2 _ _ _ _ _ k) ?_
      simp only [if_pos (show ((i : Nat) : Int) < ((2 ^ r : Nat) : Int) by omega)]
      have bd := slg_bound hr16 l (fun k hk => ⟨(hli k hk).1, (hli k hk).2.1⟩) hi
      refine ev_up (L := fun k j => culletref15_Locator.l2 k l (lst (2 ^ r) lgE) (lst (2 ^ r) (fun j => if j < i then ((slg l j l.length : Nat) : Int) else 0)) ((i : Nat) : Int) ((slg l i j : Nat) : Int) ((2 ^ r : Nat) : Int) ((i : Nat) : Int) l (l.length : Int) ((j : Nat) : Int)) (n := l.length) ?_ ?_ 0 (Nat.zero_le _)
      · refine Ev.step (fun k => culletref15_Locator.l2.eq_2 _ _ _ _ _ _ _ _ _ _ k) ?_
        simp only [if_neg (show ¬ ((l.length : Nat) : Int) < (l.length : Int) by omega), if_pos (show (0 : Int) ≤ (i : Int) by omega), lst_len, if_pos (show ((i : Nat) : Int) < ((2 ^ r : Nat) : Int) by omega), Int.toNat_natCast, lst_step (fun i => ((slg l i l.length : Nat) : Int)) rfl, wr_up (n := i) (by omega)]
        exact nx
      · intro j hj nx2
        refine Ev.step (fun k => culletref15_Locator.l2.eq_2 _ _ _ _ _ _ _ _ _ _ k) ?_
        obtain ⟨g1, g2, -⟩ := hli j hj
        obtain ⟨a, ha⟩ := Int.eq_ofNat_of_zero_le g1
        have hai : a < 2 ^ r := by omega
        have hx : i ^^^ a < 2 ^ r := Nat.xor_lt_two_pow hi hai
        have hg := lgE_nn (i ^^^ a)
        have hsucc : ((slg l i (j + 1) : Nat) : Int) = ((slg l i j : Nat) : Int) + lgE (i ^^^ a) := by
          show ((slg l i j + (lgE (i ^^^ (l.getD j 0).toNat)).toNat : Nat) : Int) = _
          rw [ha, Int.toNat_natCast]; omega
        have b1 := bd (j + 1) (by omega)
        rw [hsucc] at nx2
        simp only [if_pos (show ((j : Nat) : Int) < (l.length : Int) by omega), if_pos (show (0 : Int) ≤ (j : Int) by omega), rd_nat, ha, bits_xori (a := i) (b := a) (by omega) (by omega), if_pos (show (0 : Int) ≤ ((i ^^^ a : Nat) : Int) by omega), lst_len, if_pos (show ((i ^^^ a : Nat) : Int) < ((2 ^ r : Nat) : Int) by omega), lst_getD hx, w64 (n := lgE (i ^^^ a)) (by omega) (by omega), w64 (n := ((slg l i j : Nat) : Int) + lgE (i ^^^ a)) (by omega) (by omega), wr_up (n := j) (by omega)]
        exact nx2
/-- What Products answers. -/
def prodA (l : List Int) (r : Int) : List Int × Int := if (locA l r).2 = 0 then (lst (locA l r).1.length (fun i => ((tab16.pw (res ((locA l r).1.getD i 0)) : Nat) : Int)), 0) else ([], (locA l r).2)
theorem P_of {l : List Int} {r : Int} (hl : l.length ≤ 1152921504606846976) : walsh_Products.f l r = some (prodA l r) := by
  unfold walsh_Products.f prodA
  rw [L_of hl, Option.bind_some]
  split <;> rfl
theorem locA_val {l : List Int} {r : Int} (h : (locA l r).2 = 0) : (locA l r).1.length ≤ 65536 ∧ ∀ i, i < (locA l r).1.length → 0 ≤ (locA l r).1.getD i 0 ∧ (locA l r).1.getD i 0 < 65535 := by
  unfold locA at h ⊢
  by_cases hr : 0 ≤ r ∧ r ≤ 16
  · rw [if_pos hr] at h ⊢
    by_cases hlo : losB (2 ^ r.toNat) l = true
    · rw [if_pos hlo] at h ⊢
      refine ⟨by show (lst _ _).length ≤ _; rw [lst_len]; exact (show 2 ^ r.toNat ≤ 2 ^ 16 from Nat.pow_le_pow_right (by decide) (by omega)), fun i hi => ?_⟩
      have hi' : i < 2 ^ r.toNat := by have := lst_len (2 ^ r.toNat) (locL l r.toNat); rw [← this]; exact hi
      show 0 ≤ (lst _ _).getD i 0 ∧ (lst _ _).getD i 0 < 65535
      rw [lst_getD hi']
      exact ⟨md_ge _, md_lt _⟩
    · rw [if_neg hlo] at h; exact absurd h (by decide)
  · rw [if_neg hr] at h; exact absurd h (by decide)
theorem RefProducts {l : List Int} {r : Int} (hl : l.length < 2 ^ 60) : Ev (fun k => culletref15_Products.f k l r) (prodA l r) := by
  unfold culletref15_Products.f prodA
  refine Ev.bind (RefLocator hl) ?_
  by_cases h0 : (locA l r).2 = 0
  rotate_left
  · rw [if_neg h0]
    simp only [if_neg h0]
    exact Ev.now _
  rw [if_pos h0]
  simp only [if_pos h0]
  obtain ⟨hb, hv⟩ := locA_val h0
  refine Ev.bind RefExps ?_
  obtain ⟨q, hq⟩ : ∃ q, q = (locA l r).1 := ⟨_, rfl⟩
  rw [← hq] at hb hv ⊢
  simp only [if_pos (show (0 : Int) ≤ (q.length : Int) by omega), Int.toNat_natCast, if_pos (show q.length ≤ 140737488355328 by omega)]
  rw [lst_zero q.length (fun i => ((tab16.pw (res (q.getD i 0)) : Nat) : Int))]
  refine ev_up (L := fun k i => culletref15_Products.l0 k expL (lst q.length (fun j => if j < i then ((tab16.pw (res (q.getD j 0)) : Nat) : Int) else 0)) q (q.length : Int) ((i : Nat) : Int)) (n := q.length) ?_ ?_ 0 (Nat.zero_le _)
  · refine Ev.step (fun k => culletref15_Products.l0.eq_2 _ _ _ _ _ k) ?_
    simp only [if_neg (show ¬ ((q.length : Nat) : Int) < (q.length : Int) by omega), lst_done]
    exact Ev.now _
  · intro i hi nx
    refine Ev.step (fun k => culletref15_Products.l0.eq_2 _ _ _ _ _ k) ?_
    obtain ⟨v0, v1⟩ := hv i hi
    obtain ⟨x, hx⟩ := Int.eq_ofNat_of_zero_le v0
    have hres : res (q.getD i 0) = x := by
      rw [hx]; unfold res
      rw [Int.tmod_eq_emod_of_nonneg (by omega)]
      split <;> omega
    have hg : expL.getD x 0 = ((tab16.pw x : Nat) : Int) := lst_getD (by omega) _ _
    simp only [if_pos (show ((i : Nat) : Int) < (q.length : Int) by omega), if_pos (show (0 : Int) ≤ (i : Int) by omega), rd_nat, hx, if_pos (show (0 : Int) ≤ (x : Int) by omega), expL_len, if_pos (show ((x : Nat) : Int) < ((65535 : Nat) : Int) by omega), lst_len, Int.toNat_natCast, hg, lst_step (fun i => ((tab16.pw (res (q.getD i 0)) : Nat) : Int)) (show ((tab16.pw x : Nat) : Int) = ((tab16.pw (res (q.getD i 0)) : Nat) : Int) by rw [hres]), wr_up (n := i) (by omega)]
    exact nx
end Go.Proofs.Ytklkcenffajfeaa.R
