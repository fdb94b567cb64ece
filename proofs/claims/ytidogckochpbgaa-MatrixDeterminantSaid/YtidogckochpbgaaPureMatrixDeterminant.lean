/-
MatrixDeterminant: the determinant of a product, of the transposed matrix, and along the first row (Laplace).
-/
import Derived.Test.YtidogckochpbgaaSolveLaw
import Derived.Test.YtidogckochpbgaaLawMat
import Derived.Test.YtidogckochpbgaaTransOps
import Derived.Test.YtidogckochpbgaaLaplace
import Derived.Test.YtidogckochpbgaaQx2
namespace Go.Proofs.Ytidogckochpbgaa.Pure
open Go.RowKit Go.Proofs.Ytidogckochpbgaa.A Go.Proofs.Ytidogckochpbgaa.Q Go.Proofs.YtidogckochpbgaaW.PrintWords Go.Proofs.YtidogckochpbgaaW.PrintLast Go.Proofs.YtidogckochpbgaaW.PrintMore Go.Proofs.Ytidogckochpbgaa.R GP
set_option linter.unusedVariables false
set_option linter.unusedSimpArgs false

theorem byt_wf' {l : List (List Int)} (h : (fun l : List (List Int) => l.length * 24 ≤ 140737488351232 ∧ ∀ x ∈ l, (fun l : List Int => l.length * 1 ≤ 140737488351232 ∧ ∀ x ∈ l, (fun x : Int => (Lit.int .u8 x).wf = true) x) x) l) : byt l = true :=
  byt_wf (fun x hx y hy => (h.2 x hx).2 y hy)
theorem wake_det : matrix_Det.f [[1, 2], [3, 4]] = some (2, 0) := by decide +kernel
theorem row_skip {n i : Nat} (hi : i < n + 1) (v : Nat → G8) : (rw8 (n + 1) v).take i ++ (rw8 (n + 1) v).drop (i + 1) = rw8 n (fun c => v (LA.skip i c)) := by
  unfold rw8 rowOf
  apply List.ext_getElem
  · simp; omega
  · intro c h1 h2
    by_cases hc : c < i
    · rw [List.getElem_append_left (by simp; omega)]
      simp [LA.skip, hc]
    · rw [List.getElem_append_right (by simp; omega)]
      have e : i + 1 + (c - min i (n + 1)) = c + 1 := by omega
      simp [LA.skip, hc, e]
theorem mt_snoc (m c : Nat) (B : Nat → Nat → G8) : mt m c B ++ [rw8 c (B m)] = mt (m + 1) c B := by
  unfold R.mt R.mat
  rw [List.range_succ, List.map_append]
  rfl
theorem MatrixDeterminant : culletlaw10_MatrixDeterminant.Pure := by
  intro a b wa wb
  apply Ev.rounds
  have hba := byt_wf' wa
  have hbb := byt_wf' wb
  unfold culletlaw10_MatrixDeterminant.f
  simp only [wake_det, Option.bind_some, if_true, bne_self_eq_false]
  refine Ev.step (fun k => culletlaw10_MatrixDeterminant.j0.eq_2 _ _ _ k) ?_
  simp only [Bool.false_eq_true, if_false]
  refine Ev.bind (Side_any a) ?_
  have no : Ev (fun k => culletlaw10_MatrixDeterminant.j1 k a b (if chk a = true then (a.length : Int) else 0) true) true := by
    refine Ev.step (fun k => culletlaw10_MatrixDeterminant.j1.eq_2 _ _ _ _ k) ?_
    simp only [if_true]
    exact Ev.now _
  by_cases hc : ¬ (chk a = true)
  · simp only [if_neg hc] at no ⊢
    simp only [if_true]
    exact no
  replace hc := Decidable.not_not.1 hc
  obtain ⟨m1, m2, w1, w2, -⟩ := chk_iff.1 hc
  simp only [if_pos hc] at no ⊢
  have r0 : A.rd_L1 a 0 = a.getD 0 [] := rdl (i := 0)
  simp only [q_rd, r0, if_neg (show ¬ (a.length : Int) = 0 by omega), if_pos (show (0 : Int) < (a.length : Int) by omega)]
  by_cases hn : (a.length : Int) > 32
  · simp only [if_pos hn]; exact no
  simp only [if_neg hn]
  by_cases hs : ¬ (((a.getD 0 []).length : Int) = (a.length : Int))
  · simp only [bne_iff_ne.2 hs]; exact no
  replace hs := Decidable.not_not.1 hs
  simp only [bne_eq_false_iff_eq.2 hs]
  clear no
  have hsq : a.length = wid a := by unfold wid; omega
  have ea := toM_eq hc hba
  rw [← hsq] at ea
  have htw := twin_of hc
  have hdet := Det_of hc hba hsq
  clear r0 hs
  generalize toM a = M at ea hdet
  generalize hm : a.length = n at ea m1 m2 hn hdet
  clear hsq w1 w2
  have mtdet : ∀ B : Nat → Nat → G8, ∀ m, 1 ≤ m → m ≤ 256 → matrix_Det.f (mt m m B) = some ((((LA.det m B).v : Nat) : Int), (0 : Int)) := fun B m h1 h2 => by
    have := Det_of (l := mt m m B) (chk_mt h1 h2 h1 (by omega)) byt_mt (by rw [mt_len, wid_mt h1])
    rw [mt_len, LA.det_congr (fun i j hi hj => toM_mt hi hj)] at this
    exact this
  have htr := Transpose_mt m1 m2 m1 m2 M
  rw [← ea] at htr
  refine Ev.step (fun k => culletlaw10_MatrixDeterminant.j1.eq_2 _ _ _ _ k) ?_
  simp only [Bool.false_eq_true, if_false, htw, Option.bind_some, hdet]
  refine Ev.bind htr ?_
  simp only [if_true, bne_self_eq_false]
  refine Ev.step (fun k => culletlaw10_MatrixDeterminant.j2.eq_2 _ _ _ _ _ _ k) ?_
  simp only [Bool.false_eq_true, if_false, mtdet _ n m1 m2, LA.det_transpose, Option.bind_some, if_true, bne_self_eq_false]
  refine Ev.step (fun k => culletlaw10_MatrixDeterminant.j3.eq_2 _ _ _ _ _ k) ?_
  have r1 : A.rd_L1 a 0 = rw8 n (M 0) := by rw [ea]; exact mt_row (i := 0) (by omega) n M
  simp only [q_rd, Bool.false_eq_true, if_false, hm, if_pos (show (0 : Int) < (n : Int) by omega), r1, rw8_len]
  by_cases h1 : (n : Int) = 1
  · have g0 : rd (rw8 n (M 0)) 0 = (((M 0 0).v : Nat) : Int) := rw8_get (j := 0) (by omega) (M 0)
    have d1 : LA.det n M = M 0 0 := by
      have : n = 1 := by omega
      subst this
      show M 0 0 * 1 + 0 = M 0 0
      rw [LA.Fld.mul_one, LA.Fld.add_zero]
    simp only [if_pos h1, g0, d1, beq_self_eq_true]
    exact Ev.now _
  simp only [if_neg h1]
  -- the last part: a product
  have last : Ev (fun k => culletlaw10_MatrixDeterminant.l0 k a b (((LA.det n M).v : Nat) : Int) (n : Int) (((LA.det n M).v : Nat) : Int) (n : Int)) true := by
    refine Ev.step (fun k => culletlaw10_MatrixDeterminant.l0.eq_2 _ _ _ _ _ _ k) ?_
    simp only [if_neg (show ¬ ((n : Nat) : Int) < (n : Int) by omega), if_true]
    refine Ev.bind (Side_any b) ?_
    have yes : Ev (fun k => culletlaw10_MatrixDeterminant.j6 k a b (((LA.det n M).v : Nat) : Int) true) true := by
      refine Ev.step (fun k => culletlaw10_MatrixDeterminant.j6.eq_2 _ _ _ _ k) ?_
      simp only [if_true]
      exact Ev.now _
    by_cases hcb : ¬ (chk b = true)
    · simp only [if_neg hcb, if_neg (show ¬ (0 : Int) = (n : Int) by omega)]; exact yes
    replace hcb := Decidable.not_not.1 hcb
    simp only [if_pos hcb]
    by_cases hbn : ¬ ((b.length : Int) = (n : Int))
    · simp only [if_neg hbn]; exact yes
    replace hbn := Decidable.not_not.1 hbn
    have rb : A.rd_L1 b 0 = b.getD 0 [] := rdl (i := 0)
    simp only [if_pos hbn, q_rd, rb, if_pos (show (0 : Int) < (b.length : Int) by omega)]
    by_cases hsb : ¬ (((b.getD 0 []).length : Int) = (n : Int))
    · simp only [bne_iff_ne.2 hsb]; exact yes
    replace hsb := Decidable.not_not.1 hsb
    simp only [bne_eq_false_iff_eq.2 hsb]
    have eb := toM_eq hcb hbb
    have hw : wid b = n := by unfold wid; omega
    have hl : b.length = n := by omega
    have htb := twin_of hcb
    have hdb := Det_of hcb hbb (by rw [hl, hw])
    rw [hl, hw] at eb
    rw [hl] at hdb
    generalize toM b = B at eb hdb
    have hM := Mul_mt m1 m2 m1 m2 m1 (show n ≤ 512 by omega) M B
    rw [← ea, ← eb] at hM
    refine Ev.step (fun k => culletlaw10_MatrixDeterminant.j6.eq_2 _ _ _ _ k) ?_
    simp only [Bool.false_eq_true, if_false, htw, htb, Option.bind_some]
    refine Ev.bind hM ?_
    simp only [if_true, hdb, Option.bind_some, mtdet _ n m1 m2, LA.det_mm]
    refine Ev.bind (Mul8 (LA.det n M).2 (LA.det n B).2) ?_
    have e : ((m8 (LA.det n M).v (LA.det n B).v : Nat) : Int) = (((LA.det n M * LA.det n B).v : Nat) : Int) := rfl
    simp only [e, beq_self_eq_true]
    exact Ev.now _
  -- along the first row
  obtain ⟨m, rfl⟩ : ∃ m, n = m + 1 := ⟨n - 1, by omega⟩
  have hm1 : 1 ≤ m := by omega
  rw [LA.det_laplace] at last ⊢
  generalize hD : LA.sm (m + 1) (fun i => M 0 i * LA.det m (fun r c => M (r + 1) (LA.skip i c))) = D0 at last ⊢
  have l1 : ∀ i : Nat, i < m + 1 → Ev (fun k => culletlaw10_MatrixDeterminant.l0 k a b ((D0.v : Nat) : Int) (((m + 1 : Nat)) : Int) (((LA.sm (i + 1) (fun i => M 0 i * LA.det m (fun r c => M (r + 1) (LA.skip i c)))).v : Nat) : Int) (((i + 1 : Nat)) : Int)) true →
      ∀ d r : Nat, m - r ≤ d → r ≤ m → Ev (fun k => culletlaw10_MatrixDeterminant.l1 k a b ((D0.v : Nat) : Int) (((m + 1 : Nat)) : Int) (((LA.sm i (fun i => M 0 i * LA.det m (fun r c => M (r + 1) (LA.skip i c)))).v : Nat) : Int) (i : Int) (mt r m (fun r c => M (r + 1) (LA.skip i c))) (((r + 1 : Nat)) : Int)) true := by
    intro i hi next
    have fin : ∀ r : Nat, ¬ r < m → r ≤ m → Ev (fun k => culletlaw10_MatrixDeterminant.l1 k a b ((D0.v : Nat) : Int) (((m + 1 : Nat)) : Int) (((LA.sm i (fun i => M 0 i * LA.det m (fun r c => M (r + 1) (LA.skip i c)))).v : Nat) : Int) (i : Int) (mt r m (fun r c => M (r + 1) (LA.skip i c))) (((r + 1 : Nat)) : Int)) true := by
      intro r h2 h3
      obtain rfl : r = m := by omega
      refine Ev.step (fun k => culletlaw10_MatrixDeterminant.l1.eq_2 _ _ _ _ _ _ _ _ k) ?_
      simp only [if_neg (show ¬ (((r + 1 : Nat)) : Int) < ((r + 1 : Nat) : Int) by omega)]
      simp only [mtdet _ r hm1 (show r ≤ 256 by omega), Option.bind_some, if_true, hm, if_pos (show (0 : Int) < ((r + 1 : Nat) : Int) by omega), if_pos (show (0 : Int) ≤ (i : Int) by omega), q_rd, r1, rw8_len, if_pos (show ((i : Nat) : Int) < ((r + 1 : Nat) : Int) by omega), rw8_get hi]
      refine Ev.bind (Mul8 (M 0 i).2 (LA.det r (fun t c => M (t + 1) (LA.skip i c))).2) ?_
      have ex : Go.bits .xor .u8 (((LA.sm i (fun i => M 0 i * LA.det r (fun t c => M (t + 1) (LA.skip i c)))).v : Nat) : Int) ((m8 (M 0 i).v (LA.det r (fun t c => M (t + 1) (LA.skip i c))).v : Nat) : Int) = (((LA.sm (i + 1) (fun i => M 0 i * LA.det r (fun t c => M (t + 1) (LA.skip i c)))).v : Nat) : Int) := bits_xor8 (LA.sm i (fun i => M 0 i * LA.det r (fun t c => M (t + 1) (LA.skip i c)))).2 (m8_lt _ _)
      simp only [ex, wr64 (n := i) (by omega)]
      exact next
    intro d
    induction d with
    | zero => intro r h2 h3; exact fin r (by omega) h3
    | succ d ih =>
      intro r h2 h3
      by_cases hlt : r < m
      · refine Ev.step (fun k => culletlaw10_MatrixDeterminant.l1.eq_2 _ _ _ _ _ _ _ _ k) ?_
        have big : ∀ x : Nat, x ≤ 300 → x < 140737488355328 := fun x hx => by omega
        generalize (140737488355328 : Nat) = K at big ⊢
        have hrow : A.rd_L1 a (((r + 1 : Nat)) : Int) = rw8 (m + 1) (M (r + 1)) := by rw [ea]; exact mt_row (by omega) _ _
        have ht : ((rw8 (m + 1) (M (r + 1))).take i).length = i := by rw [List.length_take, rw8_len]; omega
        have hdr : ((rw8 (m + 1) (M (r + 1))).drop (i + 1)).length = m - i := by rw [List.length_drop, rw8_len]; omega
        have := ih (r + 1) (by omega) (by omega)
        rw [← mt_snoc, ← row_skip hi] at this
        simp only [if_pos (show (((r + 1 : Nat)) : Int) < ((m + 1 : Nat) : Int) by omega), Option.bind_some, if_pos (show (0 : Int) ≤ ((r + 1 : Nat) : Int) by omega), hm, if_pos (show (0 : Int) ≤ (i : Int) by omega), q_rd, hrow, rw8_len, if_pos (show ((i : Nat) : Int) ≤ ((m + 1 : Nat) : Int) by omega), Int.toNat_natCast, List.nil_append, List.length_nil, ht, if_pos (big (0 + i) (by omega)), wr64 (n := i) (by omega), if_pos (show (0 : Int) ≤ ((i + 1 : Nat) : Int) by omega), if_pos (show ((i + 1 : Nat) : Int) ≤ ((m + 1 : Nat) : Int) by omega), hdr, if_pos (big (i + (m - i)) (by omega)), mt_len, if_pos (show r < 5864062014805 by omega), wr64 (n := r + 1) (by omega)]
        exact this
      · exact fin r hlt h3
  have l0 : ∀ d i : Nat, m + 1 - i ≤ d → i ≤ m + 1 → Ev (fun k => culletlaw10_MatrixDeterminant.l0 k a b ((D0.v : Nat) : Int) (((m + 1 : Nat)) : Int) (((LA.sm i (fun i => M 0 i * LA.det m (fun r c => M (r + 1) (LA.skip i c)))).v : Nat) : Int) (i : Int)) true := by
    have fin : ∀ i : Nat, ¬ i < m + 1 → i ≤ m + 1 → Ev (fun k => culletlaw10_MatrixDeterminant.l0 k a b ((D0.v : Nat) : Int) (((m + 1 : Nat)) : Int) (((LA.sm i (fun i => M 0 i * LA.det m (fun r c => M (r + 1) (LA.skip i c)))).v : Nat) : Int) (i : Int)) true := by
      intro i h2 h3
      obtain rfl : i = m + 1 := by omega
      rw [hD]
      exact last
    intro d
    induction d with
    | zero => intro i h2 h3; exact fin i (by omega) h3
    | succ d ih =>
      intro i h2 h3
      by_cases hlt : i < m + 1
      · refine Ev.step (fun k => culletlaw10_MatrixDeterminant.l0.eq_2 _ _ _ _ _ _ k) ?_
        simp only [if_pos (show ((i : Nat) : Int) < ((m + 1 : Nat) : Int) by omega), if_pos (show (0 : Int) ≤ ((m + 1 : Nat) : Int) by omega), Int.toNat_natCast, if_pos (show m + 1 ≤ 11728124029610 by omega)]
        exact l1 i hlt (ih (i + 1) (by omega) (by omega)) m 0 (by omega) (by omega)
      · exact fin i hlt h3
  exact l0 (m + 1) 0 (by omega) (by omega)
end Go.Proofs.Ytidogckochpbgaa.Pure
