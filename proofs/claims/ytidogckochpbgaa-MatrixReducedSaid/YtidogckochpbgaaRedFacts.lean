/- All that MatrixReduced looks at, of a matrix that has form (stage B). -/
import Derived.Test.YtidogckochpbgaaNullMat
import Derived.Test.YtidogckochpbgaaTransOps
import Derived.Test.YtidogckochpbgaaLawMatB
import Derived.Test.YtidogckochpbgaaBx3
namespace Go.Proofs.Ytidogckochpbgaa.R
open Go.RowKit Go.Proofs.YtidogckochpbgaaW.PrintWords Go.Proofs.YtidogckochpbgaaW.PrintLast Go.Proofs.YtidogckochpbgaaW.PrintMore Go.Proofs.Ytidogckochpbgaa.A GP
set_option linter.unusedVariables false
set_option linter.unusedSimpArgs false
theorem mt_getD {m c i : Nat} {A : Nat → Nat → G8} (h : i < m) : (mt m c A).getD i [] = rw8 c (A i) := by
  have := mt_row h c A
  unfold Go.Proofs.Ytidogckochpbgaa.A.rd_L1 at this
  rwa [Int.toNat_natCast] at this
theorem Rank_mtB {m w : Nat} (hm1 : 1 ≤ m) (hm : m ≤ 256) (hw1 : 1 ≤ w) (hw : w ≤ 512) {A : Nat → Nat → G8} :
    B.matrix_Rank.f (mt m w A) = some (((LA.gj m A w).2.1.length : Int), 0) := by
  unfold B.matrix_Rank.f
  rw [Reduce_mt hm1 hm hw1 hw]
  simp only [Option.bind_some, pin_len]
theorem reduced_facts {l : List (List Int)} (hc : chk l = true) (hb : byt l = true) (hw : wid l ≤ 256) : ∃ (M T N : List (List Int)) (P : List Int) (ps : List Nat),
    matrix_Reduce.f l = some (M, P, 0) ∧ M.length = l.length ∧ (∀ i, i < l.length → (M.getD i []).length = wid l) ∧ (∃ k, B.culletlaw10_stairs.f k M P = some true) ∧ P = pin ps ∧
    B.matrix_Rank.f l = some ((P.length : Int), 0) ∧ (∃ k, matrix_Transpose.f k l = some (T, 0)) ∧ B.matrix_Rank.f T = some ((P.length : Int), 0) ∧ (∃ k, B.matrix_Null.f k l = some (N, 0)) ∧ N.length + P.length = wid l ∧
    (∀ q f, LA.At ps q f → q < ps.length → ps.getD q 0 = f → LA.At ps (q + 1) (f + 1)) ∧
    (∀ q f a, LA.At ps q f → a + q = f → f < wid l → ¬ (q < ps.length ∧ ps.getD q 0 = f) → LA.At ps q (f + 1) ∧ a < N.length ∧ (N.getD a []).length = wid l ∧ (∃ k, B.culletlaw10_unit.f k (N.getD a []) (f : Int) P = some true) ∧
      ∀ r, r < l.length → (∃ k, B.culletlaw10_ends.f k (l.getD r []) (N.getD a []) = some true) ∧ (∃ k, B.culletlaw10_ends.f k (M.getD r []) (N.getD a []) = some true)) ∧
    (∀ q a, LA.At ps q (wid l) → a + q = wid l → a = N.length) := by
  obtain ⟨m1, m2, v1, v2, -⟩ := chk_iff.1 hc
  have e := toM_eq hc hb
  generalize toM l = A at e
  generalize wid l = c at e v1 v2 hw ⊢
  generalize hn : l.length = n at e m1 m2 ⊢
  have red := LA.gj_red n c A c
  have o := LA.gj_of n c A c
  have hr := Reduce_mt m1 m2 v1 v2 (A := A)
  have hk := Rank_mtB m1 m2 v1 v2 (A := A)
  have ht := Transpose_mt m1 m2 v1 hw A
  have hk2 := Rank_mtB v1 hw m1 (show n ≤ 512 by omega) (A := fun i j => A j i)
  have hnu := Null_mt m1 m2 v1 v2 (A := A)
  have hst := Stairs m2 v2 red
  rw [rank_transpose] at hk2
  rw [← e] at hr hk ht hnu
  generalize (LA.gj n A c).1 = R at red o hr hnu hst
  generalize hps : (LA.gj n A c).2.1 = ps at red hr hk hk2 hnu hst
  have hat : LA.At ps ps.length c := ⟨Nat.le_refl _, fun i hi => red.below' hi, fun i h1 h2 => by omega⟩
  have hfl := fc_len red c ps.length hat
  have hNl : (nvs c R ps c).length = (fc ps c).length := by unfold nvs; rw [List.length_map]
  refine ⟨mt n c R, mt c n (fun i j => A j i), nvs c R ps c, pin ps, ps, hr, mt_len _ _ _, fun i hi => by rw [mt_getD hi, rw8_len], hst.rounds, rfl, by rw [pin_len]; exact hk, ht.rounds, by rw [pin_len]; exact hk2, hnu.rounds, by rw [hNl, pin_len]; exact hfl, fun q f a h1 h2 => a.hit red h1 h2, ?_, ?_⟩
  · intro q f a hA ha hf hno
    obtain ⟨a2, hne⟩ := hA.miss red hno
    have hfm : f ∉ ps := fun hmem => by obtain ⟨i, hi, e⟩ := mem_getD.1 hmem; exact hne i hi e
    have hlf := fc_len red f q hA
    have hget : ∀ d, f + 1 + d ≤ c → (fc ps (f + 1 + d))[a]? = some f := by
      intro d
      induction d with
      | zero =>
        intro _
        rw [Nat.add_zero, fc_miss hfm, List.getElem?_append_right (by omega), show a - (fc ps f).length = 0 by omega]
        rfl
      | succ d ih =>
        intro h
        have i1 := ih (by omega)
        by_cases e1 : f + 1 + d ∈ ps
        · rw [show f + 1 + (d + 1) = (f + 1 + d) + 1 by omega, fc_hit e1]; exact i1
        · rw [show f + 1 + (d + 1) = (f + 1 + d) + 1 by omega, fc_miss e1, List.getElem?_append_left (List.getElem?_eq_some_iff.1 i1).1]; exact i1
    have hg := hget (c - (f + 1)) (by omega)
    rw [show f + 1 + (c - (f + 1)) = c by omega] at hg
    have hv : (nvs c R ps c).getD a [] = rw8 c (LA.nv R ps f) := by
      unfold nvs
      rw [List.getD_eq_getElem?_getD, List.getElem?_map, hg]
      rfl
    rw [hv]
    refine ⟨a2, by rw [hNl]; exact (List.getElem?_eq_some_iff.1 hg).1, rw8_len _ _, (Unit m2 v2 hf red).rounds, fun r hr2 => ⟨?_, ?_⟩⟩
    · rw [e, mt_getD hr2]
      exact (Ends v2 (LA.nv_of red o.2 hf hne hr2)).rounds
    · rw [mt_getD hr2]
      exact (Ends v2 (LA.nv_row red hf hne hr2)).rounds
  · intro q a hA ha
    have := fc_len red c q hA
    omega
end Go.Proofs.Ytidogckochpbgaa.R
