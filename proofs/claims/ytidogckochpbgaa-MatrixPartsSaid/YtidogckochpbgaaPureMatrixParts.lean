/-
MatrixParts: every Mul, Transpose, Sub, Pick and Augment is the document's. The bounds are those within which arguments can be handed in.
-/
import Derived.Test.YtidogckochpbgaaRefParts
import Derived.Test.YtidogckochpbgaaAwakeMat
import Derived.Test.YtidogckochpbgaaHugeMat
import Derived.Test.YtidogckochpbgaaQx7

namespace Go.Proofs.Ytidogckochpbgaa.Pure
open Go.RowKit Go.Proofs.Ytidogckochpbgaa.A Go.Proofs.Ytidogckochpbgaa.Q Go.Proofs.YtidogckochpbgaaW.PrintWords Go.Proofs.YtidogckochpbgaaW.PrintLast Go.Proofs.YtidogckochpbgaaW.PrintMore Go.Proofs.Ytidogckochpbgaa.R GP
set_option linter.unusedVariables false
set_option linter.unusedSimpArgs false
theorem byt_ok {l : List (List Int)} (h : okM l) : byt l = true := byt_wf (fun x hx y hy => (h.2 x hx).2 y hy)
theorem same_res {r : List (List Int)} (h : r = [] ∨ ∃ m c A, m ≤ 256 ∧ c ≤ 512 ∧ r = mt m c A) : Ev (fun k => culletlaw10_same.f k r r) true := by
  rcases h with rfl | ⟨m, c, A, hm, hc, rfl⟩
  · exact same_nil
  · exact Same_mt (by omega) (by omega) _
theorem Sub_both {a : List (List Int)} (ha : byt a = true) (r0 r1 c0 c1 : Int) : ∃ (r : List (List Int)) (e : Int), matrix_Sub.f a r0 r1 c0 c1 = some (r, e) ∧ Ev (fun k => E.culletref10_Sub.f k a r0 r1 c0 c1) (r, e) ∧ (r = [] ∨ ∃ m c A, m ≤ 256 ∧ c ≤ 512 ∧ r = mt m c A) := by
  unfold matrix_Sub.f
  by_cases hca : chk a = true
  · rw [if_pos hca]
    by_cases h : 0 ≤ r0 ∧ r0 < r1 ∧ r1 ≤ a.length ∧ 0 ≤ c0 ∧ c0 < c1 ∧ c1 ≤ wid a
    · rw [if_pos h, if_pos ha]
      obtain ⟨am1, am2, aw1, aw2, -⟩ := chk_iff.1 hca
      obtain ⟨n0, rfl⟩ := Int.eq_ofNat_of_zero_le (show 0 ≤ r0 by omega)
      obtain ⟨n1, rfl⟩ := Int.eq_ofNat_of_zero_le (show 0 ≤ r1 by omega)
      obtain ⟨m0, rfl⟩ := Int.eq_ofNat_of_zero_le (show 0 ≤ c0 by omega)
      obtain ⟨m1, rfl⟩ := Int.eq_ofNat_of_zero_le (show 0 ≤ c1 by omega)
      have e1 : ((n1 : Int) - (n0 : Int)).toNat = n1 - n0 := by omega
      have e2 : ((m1 : Int) - (m0 : Int)).toNat = m1 - m0 := by omega
      refine ⟨_, _, rfl, ?_, .inr ⟨n1 - n0, m1 - m0, fun i j => toM a (n0 + i) (m0 + j), by omega, by omega, ?_⟩⟩
      · have := RSub_mt am1 am2 aw1 aw2 (r0 := n0) (r1 := n1) (c0 := m0) (c1 := m1) (by omega) (by omega) (by omega) (by omega) (toM a)
        rw [← toM_eq hca ha] at this
        rw [e1, e2, Int.toNat_natCast, Int.toNat_natCast]
        exact this
      · rw [e1, e2, Int.toNat_natCast, Int.toNat_natCast]
    · rw [if_neg h]
      exact ⟨[], 7, rfl, RSub_no7 hca h, .inl rfl⟩
  · rw [if_neg hca]
    exact ⟨[], 100, rfl, RSub_no100 hca r0 r1 c0 c1, .inl rfl⟩
theorem Pick_both {a : List (List Int)} (ha : byt a = true) (rows : List Int) : ∃ (r : List (List Int)) (e : Int), matrix_Pick.f a rows = some (r, e) ∧ culletref10_Pick.f a rows = some (r, e) ∧ (r = [] ∨ ∃ m c A, m ≤ 256 ∧ c ≤ 512 ∧ r = mt m c A) := by
  unfold matrix_Pick.f culletref10_Pick.f
  by_cases hca : chk a = true
  · obtain ⟨am1, am2, aw1, aw2, -⟩ := chk_iff.1 hca
    simp only [if_pos hca, if_pos ha]
    by_cases h1 : 1 ≤ rows.length ∧ rows.length ≤ 256
    · rw [if_pos h1]
      by_cases h2 : (rows.all fun n => decide (0 ≤ n) && decide (n < (a.length : Int))) = true
      · rw [if_pos ⟨h1.1, h1.2, h2⟩, if_pos h2]
        exact ⟨_, _, rfl, rfl, .inr ⟨rows.length, wid a, _, h1.2, aw2, rfl⟩⟩
      · rw [if_neg (fun h => h2 h.2.2), if_neg h2]
        exact ⟨[], 7, rfl, rfl, .inl rfl⟩
    · rw [if_neg (fun h => h1 ⟨h.1, h.2.1⟩), if_neg h1]
      exact ⟨[], 7, rfl, rfl, .inl rfl⟩
  · simp only [if_neg hca]
    exact ⟨[], 100, rfl, rfl, .inl rfl⟩
theorem Augment_both {a b : List (List Int)} (ha : byt a = true) (hb : byt b = true) : ∃ (r : List (List Int)) (e : Int), matrix_Augment.f a b = some (r, e) ∧ Ev (fun k => culletref10_Augment.f k a b) (r, e) ∧ (r = [] ∨ ∃ m c A, m ≤ 256 ∧ c ≤ 512 ∧ r = mt m c A) := by
  have n : Ev (fun k => culletref10_Augment.j0 k a b true) (([] : List (List Int)), (100 : Int)) := by
    refine Ev.step (fun k => culletref10_Augment.j0.eq_2 _ _ _ k) ?_
    simp only [if_true]; exact Ev.now _
  have d1 := RCheck_any a
  have d2 := RCheck_any b
  unfold matrix_Augment.f culletref10_Augment.f
  by_cases hca : chk a = true
  · rw [if_pos hca] at d1
    by_cases hcb : chk b = true
    · rw [if_pos hcb] at d2
      rw [if_pos ⟨hca, hcb⟩]
      obtain ⟨am1, am2, aw1, aw2, -⟩ := chk_iff.1 hca
      obtain ⟨bm1, bm2, bw1, bw2, -⟩ := chk_iff.1 hcb
      have g0 : A.rd_L1 a 0 = a.getD 0 [] := rdl (i := 0)
      have g1 : A.rd_L1 b 0 = b.getD 0 [] := rdl (i := 0)
      have e0 : (((a.getD 0 []).length : Nat) : Int) = (wid a : Int) := rfl
      have e1 : (((b.getD 0 []).length : Nat) : Int) = (wid b : Int) := rfl
      have w : wrap64 ((wid a : Int) + (wid b : Int)) = (wid a : Int) + (wid b : Int) := wrap64_id (by omega) (by omega)
      by_cases hl : a.length = b.length
      · by_cases hw : wid a + wid b ≤ 512
        · rw [if_pos ⟨hl, hw⟩, if_pos ⟨ha, hb⟩]
          refine ⟨_, _, rfl, ?_, .inr ⟨a.length, wid a + wid b, _, am2, hw, rfl⟩⟩
          refine Ev.bind d1 ?_
          simp only [if_true]
          refine Ev.bind d2 ?_
          refine Ev.step (fun k => culletref10_Augment.j0.eq_2 _ _ _ k) ?_
          simp only [q_rd, bne_self_eq_false, Bool.false_eq_true, if_false, if_pos (show (a.length : Int) = (b.length : Int) by omega), if_pos (show (0 : Int) < (a.length : Int) by omega), if_pos (show (0 : Int) < (b.length : Int) by omega), g0, g1, e0, e1, w, if_neg (show ¬ (wid a : Int) + (wid b : Int) > 512 by omega)]
          unfold culletref10_beside.f
          rw [if_pos ⟨hca, hcb, hl, ha, hb⟩]
          exact Ev.now _
        · rw [if_neg (fun h => hw h.2)]
          refine ⟨[], 101, rfl, ?_, .inl rfl⟩
          refine Ev.bind d1 ?_
          simp only [if_true]
          refine Ev.bind d2 ?_
          refine Ev.step (fun k => culletref10_Augment.j0.eq_2 _ _ _ k) ?_
          simp only [q_rd, bne_self_eq_false, Bool.false_eq_true, if_false, if_pos (show (a.length : Int) = (b.length : Int) by omega), if_pos (show (0 : Int) < (a.length : Int) by omega), if_pos (show (0 : Int) < (b.length : Int) by omega), g0, g1, e0, e1, w, if_pos (show (wid a : Int) + (wid b : Int) > 512 by omega)]
          exact Ev.now _
      · rw [if_neg (fun h => hl h.1)]
        refine ⟨[], 101, rfl, ?_, .inl rfl⟩
        refine Ev.bind d1 ?_
        simp only [if_true]
        refine Ev.bind d2 ?_
        refine Ev.step (fun k => culletref10_Augment.j0.eq_2 _ _ _ k) ?_
        simp only [bne_self_eq_false, Bool.false_eq_true, if_false, if_neg (show ¬ (a.length : Int) = (b.length : Int) by omega)]
        exact Ev.now _
    · rw [if_neg hcb] at d2
      rw [if_neg (fun h => hcb h.2)]
      refine ⟨[], 100, rfl, ?_, .inl rfl⟩
      refine Ev.bind d1 ?_
      simp only [if_true]
      refine Ev.bind d2 ?_
      exact n
  · rw [if_neg hca] at d1
    rw [if_neg (fun h => hca h.1)]
    refine ⟨[], 100, rfl, ?_, .inl rfl⟩
    refine Ev.bind d1 ?_
    simp only [if_neg (show ¬ (100 : Int) = 0 by decide)]
    exact n
theorem parts_ev {a b : List (List Int)} (ha : okM a) (hb : okM b) (f0 f3 f4 f5 f6 : Int) {f7 : List Int} (h7 : f7.length * 8 ≤ 140737488351232) : Ev (fun k => culletlaw10_parts.f k f0 a b f3 f4 f5 f6 f7) true := by
  have ya := byt_ok ha
  have yb := byt_ok hb
  unfold culletlaw10_parts.f
  by_cases h1 : f0 = 5
  · simp only [if_pos h1, twin_ok ha, twin_ok hb, Option.bind_some]
    obtain ⟨r, e, p, q, hr⟩ := Mul_both ya yb
    refine Ev.bind p (Ev.bind q ?_)
    simp only [if_true]
    exact Ev.bind (same_res hr) (Ev.now _)
  simp only [if_neg h1]
  by_cases h2 : f0 = 6
  · simp only [if_pos h2, twin_ok ha, Option.bind_some]
    obtain ⟨r, e, p, q, hr⟩ := Transpose_both ya
    refine Ev.bind p (Ev.bind q ?_)
    simp only [if_true]
    exact Ev.bind (same_res hr) (Ev.now _)
  simp only [if_neg h2]
  by_cases h3 : f0 = 7
  · simp only [if_pos h3, twin_ok ha, Option.bind_some]
    obtain ⟨r, e, p, q, hr⟩ := Sub_both ya f3 f4 f5 f6
    simp only [p, Option.bind_some]
    refine Ev.bind q ?_
    simp only [if_true]
    exact Ev.bind (same_res hr) (Ev.now _)
  simp only [if_neg h3]
  by_cases h4 : f0 = 8
  · obtain ⟨r, e, p, q, hr⟩ := Pick_both ya f7
    have hl : ([] : List Int).length + f7.length < 17592186044416 := by rw [List.length_nil]; omega
    simp only [if_pos h4, twin_ok ha, Option.bind_some, if_pos hl, List.nil_append, p, q, if_true]
    exact Ev.bind (same_res hr) (Ev.now _)
  simp only [if_neg h4, twin_ok ha, twin_ok hb, Option.bind_some]
  obtain ⟨r, e, p, q, hr⟩ := Augment_both ya yb
  simp only [p, Option.bind_some]
  refine Ev.bind q ?_
  simp only [if_true]
  exact Ev.bind (same_res hr) (Ev.now _)
theorem MatrixParts : culletlaw10_MatrixParts.Pure := by
  intro l hok
  apply Ev.rounds
  unfold culletlaw10_MatrixParts.f
  refine Ev.bind Awake ?_
  simp only [if_true]
  suffices h : Ev (fun k => culletlaw10_all.f k l 5 9) true from Ev.bind h (Ev.now _)
  unfold culletlaw10_all.f
  have hl := hok.1
  have go : ∀ d i : Nat, l.length - i ≤ d → i ≤ l.length → Ev (fun k => culletlaw10_all.l0 k 5 9 l (l.length : Int) (i : Int)) true := by
    intro d
    induction d with
    | zero =>
      intro i h1 h2
      refine Ev.step (fun k => culletlaw10_all.l0.eq_2 _ _ _ _ _ k) ?_
      simp only [if_neg (show ¬ ((i : Nat) : Int) < (l.length : Int) by omega)]
      exact Ev.now _
    | succ d ih =>
      intro i h1 h2
      by_cases hlt : i < l.length
      · have next := ih (i + 1) (by omega) (by omega)
        obtain ⟨o, ho⟩ : ∃ o, rd_T57 l (i : Int) = o := ⟨_, rfl⟩
        have hoo : okT57 o := by
          have : rd_T57 l (i : Int) = l[i] := by unfold rd_T57; rw [Int.toNat_natCast, List.getD_eq_getElem?_getD, List.getElem?_eq_getElem hlt]; rfl
          rw [← ho, this]
          exact hok.2 _ (List.getElem_mem hlt)
        refine Ev.step (fun k => culletlaw10_all.l0.eq_2 _ _ _ _ _ k) ?_
        simp only [if_pos (show ((i : Nat) : Int) < (l.length : Int) by omega), if_pos (show (0 : Int) ≤ (i : Int) by omega), ho]
        have skip : Ev (fun k => culletlaw10_all.j1 k 5 9 l (l.length : Int) (i : Int) true o.f0 o.f1 o.f2 o.f3 o.f4 o.f5 o.f6 o.f7) true := by
          refine Ev.step (fun k => culletlaw10_all.j1.eq_2 _ _ _ _ _ _ _ _ _ _ _ _ _ _ k) ?_
          simp only [if_true, wr64 (n := i) (by omega)]
          exact next
        by_cases hk1 : o.f0 < 5
        · simp only [if_pos hk1]; exact skip
        simp only [if_neg hk1]
        by_cases hk2 : o.f0 > 9
        · simp only [if_pos hk2]; exact skip
        simp only [if_neg hk2]
        obtain ⟨b, hb⟩ := huge_ev hoo.2.1 hoo.2.2.1 o.f0 o.f3 o.f4 o.f5 o.f6 o.f7
        refine Ev.bind hb ?_
        cases b with
        | true => exact skip
        | false =>
          refine Ev.step (fun k => culletlaw10_all.j1.eq_2 _ _ _ _ _ _ _ _ _ _ _ _ _ _ k) ?_
          simp only [Bool.false_eq_true, if_false, if_neg (show ¬ o.f0 ≤ 4 by omega), if_pos (show o.f0 ≤ 9 by omega)]
          refine Ev.bind (parts_ev hoo.2.1 hoo.2.2.1 o.f0 o.f3 o.f4 o.f5 o.f6 hoo.2.2.2.2.2.2.2.1) ?_
          simp only [if_true, wr64 (n := i) (by omega)]
          exact next
      · refine Ev.step (fun k => culletlaw10_all.l0.eq_2 _ _ _ _ _ k) ?_
        simp only [if_neg (show ¬ ((i : Nat) : Int) < (l.length : Int) by omega)]
        exact Ev.now _
  exact go l.length 0 (by omega) (by omega)
end Go.Proofs.Ytidogckochpbgaa.Pure
