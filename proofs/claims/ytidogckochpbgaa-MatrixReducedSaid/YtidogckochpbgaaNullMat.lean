/- What the printed Null computes (stage B). -/
import Derived.Test.YtidogckochpbgaaRedMat
import Derived.Test.YtidogckochpbgaaSolveLaw
namespace Go.Proofs.Ytidogckochpbgaa.R
open Go.RowKit Go.Proofs.YtidogckochpbgaaW.PrintWords Go.Proofs.YtidogckochpbgaaW.PrintLast Go.Proofs.YtidogckochpbgaaW.PrintMore Go.Proofs.Ytidogckochpbgaa.A Go.Proofs.Ytidogckochpbgaa.B GP
set_option linter.unusedVariables false
set_option linter.unusedSimpArgs false
theorem rw8_set {c j : Nat} (v : Nat → G8) (x : G8) : (rw8 c v).set j ((x.v : Nat) : Int) = rw8 c (fun b => if b = j then x else v b) := by
  unfold rw8
  rw [rowOf_set]
  exact rowOf_congr (fun b _ => by by_cases e : b = j <;> simp only [e, if_true, if_false])
theorem rw8_zero (c : Nat) : List.replicate c (0 : Int) = rw8 c (fun _ => 0) := by
  unfold rw8 rowOf
  apply List.ext_getElem
  · simp
  · intro i h1 h2
    simp
    rfl
theorem Null_l0 {m w : Nat} (hm1 : 1 ≤ m) (hm : m ≤ 256) (hw : w ≤ 512) {R : Nat → Nat → G8} {ps : List Nat} (h : LA.Red m w w R ps) :
    ∀ d f q : Nat, w - f ≤ d → f ≤ w → LA.At ps q f → Ev (fun k => matrix_Null.l0 k (mt m w R) (pin ps) (nvs w R ps f) (q : Int) (w : Int) (f : Int)) (nvs w R ps w, (0 : Int)) := by
  have hlm := h.le
  have hfl : ∀ f, (nvs w R ps f).length ≤ f := fun f => by
    unfold nvs fc
    rw [List.length_map]
    exact Nat.le_trans (List.length_filter_le _ _) (by rw [List.length_range]; exact Nat.le_refl _)
  have l1 : ∀ f q : Nat, f < w → (∀ i, i < ps.length → ps.getD i 0 ≠ f) → Ev (fun k => matrix_Null.l0 k (mt m w R) (pin ps) (nvs w R ps (f + 1)) (q : Int) (w : Int) (((f + 1 : Nat)) : Int)) (nvs w R ps w, (0 : Int)) →
      ∀ d r : Nat, ps.length - r ≤ d → r ≤ ps.length → Ev (fun k => matrix_Null.l1 k (mt m w R) (pin ps) (nvs w R ps f) (q : Int) (f : Int) (rw8 w (LA.nvTo R ps f r)) (w : Int) (f : Int) (pin ps) (ps.length : Int) (r : Int)) (nvs w R ps w, (0 : Int)) := by
    intro f q hf hno next
    have fin : ∀ r : Nat, ¬ r < ps.length → r ≤ ps.length → Ev (fun k => matrix_Null.l1 k (mt m w R) (pin ps) (nvs w R ps f) (q : Int) (f : Int) (rw8 w (LA.nvTo R ps f r)) (w : Int) (f : Int) (pin ps) (ps.length : Int) (r : Int)) (nvs w R ps w, (0 : Int)) := by
      intro r h1 h2
      obtain rfl : r = ps.length := by omega
      refine Ev.step (fun k => matrix_Null.l1.eq_2 _ _ _ _ _ _ _ _ _ _ _ k) ?_
      have := hfl f
      simp only [if_neg (show ¬ ((ps.length : Nat) : Int) < (ps.length : Int) by omega), if_pos (show (nvs w R ps f).length < 5864062014805 by omega), wr64 (n := f) (by omega)]
      have e : nvs w R ps f ++ [rw8 w (LA.nvTo R ps f ps.length)] = nvs w R ps (f + 1) := by
        have hn : f ∉ ps := fun hmem => by obtain ⟨i, hi, e⟩ := mem_getD.1 hmem; exact hno i hi e
        unfold nvs
        rw [fc_miss hn, List.map_append]
        rfl
      rw [e]
      exact next
    intro d
    induction d with
    | zero => intro r h1 h2; exact fin r (by omega) h2
    | succ d ih =>
      intro r h1 h2
      by_cases hlt : r < ps.length
      · refine Ev.step (fun k => matrix_Null.l1.eq_2 _ _ _ _ _ _ _ _ _ _ _ k) ?_
        have hrm : r < m := by omega
        have hb := h.below' hlt
        have e : (rw8 w (LA.nvTo R ps f r)).set (ps.getD r 0) (((R r f).v : Nat) : Int) = rw8 w (LA.nvTo R ps f (r + 1)) := by
          rw [rw8_set]
          exact rw8_congr (fun j _ => LA.nvTo_put h hno hlt j)
        simp only [b_rd, if_pos (show ((r : Nat) : Int) < (ps.length : Int) by omega), if_pos (show (0 : Int) ≤ (r : Int) by omega), pin_len, mt_len, if_pos (show ((r : Nat) : Int) < (m : Int) by omega), if_pos (show (0 : Int) ≤ (f : Int) by omega), mt_row hrm, rw8_len, if_pos (show ((f : Nat) : Int) < (w : Int) by omega), pin_rd hlt, if_pos (show (0 : Int) ≤ ((ps.getD r 0 : Nat) : Int) by omega), if_pos (show ((ps.getD r 0 : Nat) : Int) < (w : Int) by omega), Int.toNat_natCast, rw8_get hf, e, wr64 (n := r) (by omega)]
        exact ih (r + 1) (by omega) (by omega)
      · exact fin r hlt h2
  have fin : ∀ f q : Nat, ¬ f < w → f ≤ w → Ev (fun k => matrix_Null.l0 k (mt m w R) (pin ps) (nvs w R ps f) (q : Int) (w : Int) (f : Int)) (nvs w R ps w, (0 : Int)) := by
    intro f q h1 h2
    obtain rfl : f = w := by omega
    refine Ev.step (fun k => matrix_Null.l0.eq_2 _ _ _ _ _ _ k) ?_
    simp only [if_neg (show ¬ ((f : Nat) : Int) < (f : Int) by omega)]
    exact Ev.now _
  intro d
  induction d with
  | zero => intro f q h1 h2 a; exact fin f q (by omega) h2
  | succ d ih =>
    intro f q h1 h2 a
    by_cases hlt : f < w
    · have hq := a.1
      have miss : ¬ (q < ps.length ∧ ps.getD q 0 = f) → Ev (fun k => matrix_Null.j1 k (mt m w R) (pin ps) (nvs w R ps f) (q : Int) (f : Int) (w : Int) (f : Int) false) (nvs w R ps w, (0 : Int)) := by
        intro e
        obtain ⟨a2, hno⟩ := a.miss h e
        have nx := l1 f q hlt hno (ih (f + 1) q (by omega) (by omega) a2) ps.length 0 (by omega) (by omega)
        refine Ev.step (fun k => matrix_Null.j1.eq_2 _ _ _ _ _ _ _ _ k) ?_
        have r0 : Go.Proofs.Ytidogckochpbgaa.A.rd_L1 (mt m w R) 0 = rw8 w (R 0) := mt_row (i := 0) (by omega) w R
        have e1 : (rw8 w (fun _ => (0 : G8))).set f 1 = rw8 w (LA.nvTo R ps f 0) := by
          have := rw8_set (c := w) (j := f) (fun _ => (0 : G8)) 1
          rw [g8v1] at this
          rw [this]
          rfl
        simp only [Bool.false_eq_true, if_false, b_rd, mt_len, if_pos (show (0 : Int) < (m : Int) by omega), r0, rw8_len, if_pos (show (0 : Int) ≤ (w : Int) by omega), Int.toNat_natCast, if_pos (show w ≤ 281474976710656 by omega), Option.bind_some, if_pos (show (0 : Int) ≤ (f : Int) by omega), rw8_zero, if_pos (show ((f : Nat) : Int) < (w : Int) by omega), e1, pin_len]
        exact nx
      refine Ev.step (fun k => matrix_Null.l0.eq_2 _ _ _ _ _ _ k) ?_
      simp only [if_pos (show ((f : Nat) : Int) < (w : Int) by omega), pin_len]
      by_cases hql : q < ps.length
      · simp only [if_pos (show ((q : Nat) : Int) < (ps.length : Int) by omega), if_pos (show (0 : Int) ≤ (q : Int) by omega), pin_rd hql]
        by_cases e : ps.getD q 0 = f
        · have nx := ih (f + 1) (q + 1) (by omega) (by omega) (a.hit h hql e)
          have hmem : f ∈ ps := mem_getD.2 ⟨q, hql, e⟩
          have e2 : nvs w R ps (f + 1) = nvs w R ps f := by unfold nvs; rw [fc_hit hmem]
          rw [e2] at nx
          simp only [beq_iff_eq.2 (show ((ps.getD q 0 : Nat) : Int) = (f : Int) by omega)]
          refine Ev.step (fun k => matrix_Null.j1.eq_2 _ _ _ _ _ _ _ _ k) ?_
          simp only [if_true, wr64 (n := f) (by omega), wr64 (n := q) (by omega)]
          exact nx
        · simp only [beq_eq_false_iff_ne.2 (show ((ps.getD q 0 : Nat) : Int) ≠ (f : Int) by omega)]
          exact miss (fun e2 => e e2.2)
      · simp only [if_neg (show ¬ ((q : Nat) : Int) < (ps.length : Int) by omega)]
        exact miss (fun e2 => hql e2.1)
    · exact fin f q hlt h2
theorem Reduce_mt {m w : Nat} (hm1 : 1 ≤ m) (hm : m ≤ 256) (hw1 : 1 ≤ w) (hw : w ≤ 512) {A : Nat → Nat → G8} :
    matrix_Reduce.f (mt m w A) = some (mt m w (LA.gj m A w).1, pin (LA.gj m A w).2.1, 0) := by
  unfold matrix_Reduce.f
  rw [if_pos (chk_mt hm1 hm hw1 hw), if_pos byt_mt, mt_len, wid_mt hm1]
  obtain ⟨g1, g2⟩ := gj_cols (m := m) (w := w) (S := toM (mt m w A)) (T := A) (fun i j hi hj => toM_mt hi hj) w (Nat.le_refl _)
  rw [g1, mt_congr g2]
  rfl
theorem Null_mt {m w : Nat} (hm1 : 1 ≤ m) (hm : m ≤ 256) (hw1 : 1 ≤ w) (hw : w ≤ 512) {A : Nat → Nat → G8} :
    Ev (fun k => matrix_Null.f k (mt m w A)) (nvs w (LA.gj m A w).1 (LA.gj m A w).2.1 w, (0 : Int)) := by
  unfold matrix_Null.f
  have r0 : Go.Proofs.Ytidogckochpbgaa.A.rd_L1 (mt m w (LA.gj m A w).1) 0 = rw8 w ((LA.gj m A w).1 0) := mt_row (i := 0) (by omega) w _
  simp only [Reduce_mt hm1 hm hw1 hw, Option.bind_some, if_true, mt_len, if_pos (show (0 : Int) < (m : Int) by omega), b_rd, r0, rw8_len]
  exact Null_l0 hm1 hm hw (LA.gj_red m w A w) w 0 0 (by omega) (by omega) (LA.At.start _)
theorem rank_transpose {m w : Nat} (A : Nat → Nat → G8) : (LA.gj w (fun i j => A j i) m).2.1.length = (LA.gj m A w).2.1.length := by
  have h1 := LA.gj_red m w A w
  have h2 := LA.gj_red w m (fun i j => A j i) m
  have o1 := LA.gj_of m w A w
  have o2 := LA.gj_of w m (fun i j => A j i) m
  have a := LA.rank_transpose_le (A := A) h1 o1.2 h2 o2.1
  have b := LA.rank_transpose_le (A := fun i j => A j i) h2 o2.2 h1 o1.1
  omega
end Go.Proofs.Ytidogckochpbgaa.R
