/-
MatrixInverse: a square matrix has an inverse just if its determinant is not 0, just if its rank is its rows' number; the inverse is one on either side; Solve gives back x of a x.
-/
import Derived.Test.YtidogckochpbgaaSolveLaw
import Derived.Test.YtidogckochpbgaaLawMat
import Derived.Test.YtidogckochpbgaaQx2
import Derived.Test.YtidogckochpbgaaQx4
namespace Go.Proofs.Ytidogckochpbgaa.Pure
open Go.RowKit Go.Proofs.Ytidogckochpbgaa.A Go.Proofs.Ytidogckochpbgaa.Q Go.Proofs.YtidogckochpbgaaW.PrintWords Go.Proofs.YtidogckochpbgaaW.PrintLast Go.Proofs.YtidogckochpbgaaW.PrintMore Go.Proofs.Ytidogckochpbgaa.R GP
set_option linter.unusedVariables false
set_option linter.unusedSimpArgs false

theorem byt_wf' {l : List (List Int)} (h : (fun l : List (List Int) => l.length * 24 ≤ 140737488351232 ∧ ∀ x ∈ l, (fun l : List Int => l.length * 1 ≤ 140737488351232 ∧ ∀ x ∈ l, (fun x : Int => (Lit.int .u8 x).wf = true) x) x) l) : byt l = true :=
  byt_wf (fun x hx y hy => (h.2 x hx).2 y hy)
theorem wake_lit : ([[2]] : List (List Int)) = mt 1 1 (fun _ _ => t8 2) := by decide
theorem wake_res : mt 1 1 (fun i j => (LA.gj 1 (beside8 1 (fun _ _ => t8 2) LA.one) 1).1 i (1 + j)) = ([[142]] : List (List Int)) := by decide +kernel
theorem MatrixInverse : culletlaw10_MatrixInverse.Pure := by
  intro a x wa wx
  apply Ev.rounds
  have hba := byt_wf' wa
  have hbx := byt_wf' wx
  unfold culletlaw10_MatrixInverse.f
  have hw := Invert_of (n := 1) (by decide) (by decide) (A := fun _ _ => t8 2)
  rw [← wake_lit, if_neg (by decide +kernel), wake_res] at hw
  refine Ev.bind hw ?_
  simp only [if_true]
  refine Ev.bind (Same_self (l := [[142]]) (by decide) (by decide)) ?_
  simp only [Bool.not_true]
  refine Ev.step (fun k => culletlaw10_MatrixInverse.j0.eq_2 _ _ _ k) ?_
  simp only [Bool.false_eq_true, if_false]
  refine Ev.bind (Side_any a) ?_
  have no : Ev (fun k => culletlaw10_MatrixInverse.j1 k a x (if chk a = true then (a.length : Int) else 0) true) true := by
    refine Ev.step (fun k => culletlaw10_MatrixInverse.j1.eq_2 _ _ _ _ k) ?_
    simp only [if_true]
    exact Ev.now _
  by_cases hc : ¬ (chk a = true)
  · simp only [if_neg hc] at no ⊢
    simp only [if_true]
    exact no
  replace hc := Decidable.not_not.1 hc
  obtain ⟨m1, m2, w1, w2, -⟩ := chk_iff.1 hc
  simp only [if_pos hc] at no ⊢
  have r0 : A.rd_L1 a 0 = a.getD 0 [] := rdl (i := 0)
  simp only [q_rd, r0, if_neg (show ¬ (a.length : Int) = 0 by omega), if_pos (show (0 : Int) < (a.length : Int) by omega)]
  by_cases hs : ¬ (((a.getD 0 []).length : Int) = (a.length : Int))
  · simp only [if_neg hs]; exact no
  replace hs := Decidable.not_not.1 hs
  simp only [if_pos hs]
  by_cases hn : (a.length : Int) > 64
  · simp only [decide_eq_true hn]; exact no
  simp only [decide_eq_false hn]
  clear no
  have hsq : a.length = wid a := by unfold wid; omega
  have ea := toM_eq hc hba
  rw [← hsq] at ea
  generalize hA : toM a = A at ea
  generalize hm : a.length = n at ea m1 m2 hn
  have hn64 : n ≤ 64 := by omega
  have hdet : matrix_Det.f a = some ((((LA.det n A).v : Nat) : Int), (0 : Int)) := by rw [← hm, ← hA]; exact Det_of hc hba hsq
  have hrank : matrix_Rank.f a = some (((LA.gj n A n).2.1.length : Int), (0 : Int)) := by
    unfold matrix_Rank.f matrix_Reduce.f
    rw [if_pos hc, if_pos hba]
    simp only [Option.bind_some, List.length_map]
    rw [← hsq, hA, hm]
  have htw := twin_of hc
  have hinv := Invert_of (n := n) m1 (by omega) (A := A)
  rw [← ea] at hinv
  refine Ev.step (fun k => culletlaw10_MatrixInverse.j1.eq_2 _ _ _ _ k) ?_
  simp only [Bool.false_eq_true, if_false, htw, Option.bind_some, hdet, hrank, if_true]
  have hx2 : ((((LA.gj n A n).2.1.length : Int) == (n : Int)) != ((((LA.det n A).v : Nat) : Int) != 0)) = false := by
    have h1 := LA.gj_full n A
    by_cases h : LA.det n A = 0
    · have h2 : ¬ ((LA.gj n A n).2.1.length : Int) = (n : Int) := fun e => h1.1 (by omega) h
      have h3 : (((LA.det n A).v : Nat) : Int) = 0 := by rw [h]; rfl
      rw [beq_eq_false_iff_ne.2 h2, h3]; rfl
    · have h2 : ((LA.gj n A n).2.1.length : Int) = (n : Int) := by rw [h1.2 h]
      have h3 : (((LA.det n A).v : Nat) : Int) ≠ 0 := by have := g8_ne h; omega
      rw [beq_iff_eq.2 h2, bne_iff_ne.2 h3]; rfl
  simp only [hx2]
  refine Ev.step (fun k => culletlaw10_MatrixInverse.j2.eq_2 _ _ _ _ _ k) ?_
  simp only [Bool.false_eq_true, if_false, htw, Option.bind_some]
  refine Ev.bind hinv ?_
  by_cases h : LA.det n A = 0
  · have h3 : (((LA.det n A).v : Nat) : Int) = 0 := by rw [h]; rfl
    simp only [if_pos h3, if_pos h, if_true, List.length_nil]
    exact Ev.now _
  have h3 : ¬ (((LA.det n A).v : Nat) : Int) = 0 := by have := g8_ne h; omega
  simp only [if_neg h3, if_neg h]
  obtain ⟨P, hP, hX⟩ := solve_full n (B := LA.one) h
  have eX : mt n n (fun i j => (LA.gj n (beside8 n A LA.one) n).1 i (n + j)) = mt n n P := mt_congr (fun i j hi hj => by rw [hX i j hi hj, LA.mm_one P i hj])
  rw [eX]
  have hQ := LA.inv_swap hP
  have hM1 := Mul_mt m1 m2 m1 m2 m1 (show n ≤ 512 by omega) P A
  have hM2 := Mul_mt m1 m2 m1 m2 m1 (show n ≤ 512 by omega) A P
  rw [← ea] at hM1 hM2
  refine Ev.bind hM1 ?_
  refine Ev.bind hM2 ?_
  simp only [if_true]
  refine Ev.bind (One_mt m2 hP) ?_
  simp only [if_true]
  refine Ev.bind (One_mt m2 hQ) ?_
  simp only [Bool.not_true]
  refine Ev.step (fun k => culletlaw10_MatrixInverse.j3.eq_2 _ _ _ _ k) ?_
  simp only [Bool.false_eq_true, if_false]
  refine Ev.bind (Side_any x) ?_
  by_cases hcx : ¬ (chk x = true)
  · simp only [if_neg hcx, if_neg (show ¬ (0 : Int) = (n : Int) by omega)]
    exact Ev.now _
  replace hcx := Decidable.not_not.1 hcx
  simp only [if_pos hcx]
  by_cases hxn : ¬ ((x.length : Int) = (n : Int))
  · simp only [if_neg hxn]; exact Ev.now _
  replace hxn := Decidable.not_not.1 hxn
  simp only [if_pos hxn]
  obtain ⟨-, -, v1, v2, -⟩ := chk_iff.1 hcx
  have ex := toM_eq hcx hbx
  have hxn' : x.length = n := by omega
  rw [hxn'] at ex
  have htx := twin_of hcx
  generalize toM x = X at ex
  generalize wid x = c at ex v1 v2
  simp only [htw, htx, Option.bind_some]
  have hM3 := Mul_mt m1 m2 m1 m2 v1 v2 A X
  rw [← ea, ← ex] at hM3
  refine Ev.bind hM3 ?_
  have hS := Solve_of m1 m2 v1 v2 (A := A) (B := LA.mm n A X)
  rw [← ea, if_neg h] at hS
  obtain ⟨P', hP', hX'⟩ := solve_full c (B := LA.mm n A X) h
  have eY : mt n c (fun i j => (LA.gj n (beside8 n A (LA.mm n A X)) n).1 i (n + j)) = x := by
    rw [ex]
    apply mt_congr
    intro i j hi hj
    rw [hX' i j hi hj, ← LA.mm_assoc]
    show LA.sm n (fun k => LA.mm n P' A i k * X k j) = X i j
    rw [LA.sm_congr (fun k hk => by rw [hP' i k hi hk])]
    exact LA.one_mm X hi j
  rw [eY] at hS
  simp only [hS, Option.bind_some, if_true]
  refine Ev.bind (Same_self (l := x) (by rw [hxn']; omega) (fun y hy => ?_)) (Ev.now _)
  rw [ex] at hy
  rw [mt_lens hy]; omega
end Go.Proofs.Ytidogckochpbgaa.Pure
