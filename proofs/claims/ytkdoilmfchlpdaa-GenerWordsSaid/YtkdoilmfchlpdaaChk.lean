/- Is a list of lists a matrix: what Check answers, of layer 10 and of the document. -/
import Derived.Test.YtkdoilmfchlpdaaZ7
import Derived.Test.YtkdoilmfchlpdaaZ4

namespace Go.Proofs.Ytkdoilmfchlpdaa.R
open Go.RowKit Go.Proofs.YtkdoilmfchlpdaaW.PrintWords Go.Proofs.YtkdoilmfchlpdaaW.PrintLast Go.Proofs.YtkdoilmfchlpdaaW.PrintMore Go.Proofs.Ytkdoilmfchlpdaa.A GP
set_option linter.unusedVariables false
set_option linter.unusedSimpArgs false
/-- 1 to 256 rows of one length from 1 to 512. -/
def chk (l : List (List Int)) : Bool := decide (1 ≤ l.length) && decide (l.length ≤ 256) && decide (1 ≤ (l.getD 0 []).length) && decide ((l.getD 0 []).length ≤ 512) && l.all fun x => decide (x.length = (l.getD 0 []).length)
/-- All elements are bytes. -/
def byt (l : List (List Int)) : Bool := l.all fun x => x.all fun y => decide (0 ≤ y) && decide (y ≤ 255)
/-- The matrix that a list of lists tells. -/
def toM (l : List (List Int)) : Nat → Nat → G8 := fun i j => t8 ((l.getD i []).getD j 0).toNat
/-- Its columns. -/
def wid (l : List (List Int)) : Nat := (l.getD 0 []).length
theorem chk_iff {l : List (List Int)} : chk l = true ↔ (1 ≤ l.length ∧ l.length ≤ 256 ∧ 1 ≤ wid l ∧ wid l ≤ 512 ∧ ∀ x, x ∈ l → x.length = wid l) := by
  unfold chk wid
  simp only [Bool.and_eq_true, decide_eq_true_eq, List.all_eq_true]
  constructor
  · rintro ⟨⟨⟨⟨a, b⟩, c⟩, d⟩, e⟩; exact ⟨a, b, c, d, e⟩
  · rintro ⟨a, b, c, d, e⟩; exact ⟨⟨⟨⟨a, b⟩, c⟩, d⟩, e⟩
theorem byt_iff {l : List (List Int)} : byt l = true ↔ ∀ x, x ∈ l → ∀ y, y ∈ x → 0 ≤ y ∧ y ≤ 255 := by
  unfold byt
  simp only [List.all_eq_true, Bool.and_eq_true, decide_eq_true_eq]
theorem toM_eq {l : List (List Int)} (hc : chk l = true) (hb : byt l = true) : l = mt l.length (wid l) (toM l) := by
  obtain ⟨h1, h2, h3, h4, h5⟩ := chk_iff.1 hc
  have hb' := byt_iff.1 hb
  apply List.ext_getElem
  · rw [mt_len]
  · intro i g1 g2
    have hm := List.getElem_mem g1
    have e1 : l.getD i [] = l[i] := by rw [List.getD_eq_getElem?_getD, List.getElem?_eq_getElem g1]; rfl
    have e0 : (mt l.length (wid l) (toM l))[i] = rowOf (wid l) (fun j => (toM l i j).1) := by simp [mt, mat]
    rw [e0]
    apply List.ext_getElem
    · rw [rowOf_len, h5 _ hm]
    · intro j k1 k2
      have hj := List.getElem_mem k1
      have hy := hb' _ hm _ hj
      have e2 : (l.getD i []).getD j 0 = l[i][j] := by rw [e1, List.getD_eq_getElem?_getD, List.getElem?_eq_getElem k1]; rfl
      have e3 : (rowOf (wid l) (fun j => (toM l i j).1))[j] = (((toM l i j).1 : Nat) : Int) := by simp [rowOf]
      rw [e3]
      unfold toM
      rw [e2, t8_val (by omega)]
      omega
theorem toM_mt {m c : Nat} {A : Nat → Nat → G8} {i j : Nat} (hi : i < m) (hj : j < c) : toM (mt m c A) i j = A i j := by
  have e1 := mt_row hi c A
  have e2 := rw8_get hj (A i)
  unfold rd_L1 at e1
  unfold rd at e2
  rw [Int.toNat_natCast] at e1 e2
  unfold toM
  rw [e1, e2, Int.toNat_natCast, t8_of]
theorem wid_mt {m c : Nat} {A : Nat → Nat → G8} (hm : 1 ≤ m) : wid (mt m c A) = c := by
  have e1 := mt_row (i := 0) (show 0 < m by omega) c A
  unfold rd_L1 at e1
  rw [Int.toNat_natCast] at e1
  unfold wid
  rw [e1, rw8_len]
theorem chk_mt {m c : Nat} {A : Nat → Nat → G8} (h1 : 1 ≤ m) (h2 : m ≤ 256) (h3 : 1 ≤ c) (h4 : c ≤ 512) : chk (mt m c A) = true := by
  rw [chk_iff, mt_len, wid_mt h1]
  refine ⟨h1, h2, h3, h4, fun x hx => ?_⟩
  unfold mt mat at hx
  obtain ⟨i, _, rfl⟩ := List.mem_map.1 hx
  exact rowOf_len _ _
theorem byt_mt {m c : Nat} {A : Nat → Nat → G8} : byt (mt m c A) = true := by
  rw [byt_iff]
  intro x hx y hy
  unfold mt mat at hx
  obtain ⟨i, _, rfl⟩ := List.mem_map.1 hx
  unfold rowOf at hy
  obtain ⟨j, _, rfl⟩ := List.mem_map.1 hy
  have h := (A i j).lt
  show 0 ≤ (((A i j).v : Nat) : Int) ∧ (((A i j).v : Nat) : Int) ≤ 255
  omega
theorem rdl {l : List (List Int)} {i : Nat} : rd_L1 l (i : Int) = l.getD i [] := by unfold rd_L1; rw [Int.toNat_natCast]
theorem all_from {l : List (List Int)} {c : Nat} : (∀ x, x ∈ l → x.length = c) ↔ ∀ i, i < l.length → (l.getD i []).length = c := by
  constructor
  · intro h i hi
    rw [List.getD_eq_getElem?_getD, List.getElem?_eq_getElem hi]
    exact h _ (List.getElem_mem hi)
  · intro h x hx
    obtain ⟨i, hi, rfl⟩ := List.getElem_of_mem hx
    have := h i hi
    rwa [List.getD_eq_getElem?_getD, List.getElem?_eq_getElem hi] at this
theorem Check_any_l0 {l : List (List Int)} (h1 : 1 ≤ l.length) (h2 : l.length ≤ 256) : ∀ n i : Nat, l.length - i ≤ n → i ≤ l.length →
    Ev (fun k => matrix_Check.l0 k l l (l.length : Int) (i : Int)) (if ∀ j, j < l.length → i ≤ j → (l.getD j []).length = wid l then (0 : Int) else 100) := by
  intro n
  induction n with
  | zero =>
    intro i h hi
    refine Ev.step (fun k => matrix_Check.l0.eq_2 _ _ _ _ k) ?_
    simp only [if_neg (show ¬ ((i : Nat) : Int) < (l.length : Int) by omega)]
    rw [if_pos (fun j _ _ => by omega)]
    exact Ev.now _
  | succ n ih =>
    intro i h hi
    refine Ev.step (fun k => matrix_Check.l0.eq_2 _ _ _ _ k) ?_
    by_cases hlt : i < l.length
    · have r0 : rd_L1 l 0 = l.getD 0 [] := rdl (i := 0)
      simp only [if_pos (show ((i : Nat) : Int) < (l.length : Int) by omega), if_pos (show (0 : Int) ≤ (i : Int) by omega), if_pos (show (0 : Int) < (l.length : Int) by omega), rdl, r0]
      by_cases e : (l.getD i []).length = wid l
      · have e' : ((l.getD i []).length : Int) = ((l.getD 0 []).length : Int) := by unfold wid at e; omega
        simp only [if_pos e', wr64 (n := i) (by omega)]
        have := ih (i + 1) (by omega) (by omega)
        have iff : (∀ j, j < l.length → i + 1 ≤ j → (l.getD j []).length = wid l) ↔ (∀ j, j < l.length → i ≤ j → (l.getD j []).length = wid l) :=
          ⟨fun h j hjl hj => by by_cases e1 : j = i; (· rw [e1]; exact e); (· exact h j hjl (by omega)), fun h j hjl hj => h j hjl (by omega)⟩
        simp only [iff] at this
        exact this
      · have e' : ¬ ((l.getD i []).length : Int) = ((l.getD 0 []).length : Int) := by unfold wid at e; omega
        simp only [if_neg e']
        rw [if_neg (fun h => e (h i hlt (Nat.le_refl _)))]
        exact Ev.now _
    · simp only [if_neg (show ¬ ((i : Nat) : Int) < (l.length : Int) by omega)]
      rw [if_pos (fun j _ _ => by omega)]
      exact Ev.now _
theorem Check_any (l : List (List Int)) : Ev (fun k => matrix_Check.f k l) (if chk l = true then (0 : Int) else 100) := by
  have j : Ev (fun k => matrix_Check.j0 k l true) (100 : Int) := by
    refine Ev.step (fun k => matrix_Check.j0.eq_2 _ _ k) ?_
    simp only [if_true]
    exact Ev.now _
  have r0 : rd_L1 l 0 = l.getD 0 [] := rdl (i := 0)
  unfold matrix_Check.f
  by_cases h1 : (l.length : Int) < 1
  · rw [if_neg (fun h => by have := (chk_iff.1 h).1; omega)]
    simp only [if_pos h1]; exact j
  simp only [if_neg h1]
  by_cases h2 : (l.length : Int) > 256
  · rw [if_neg (fun h => by have := (chk_iff.1 h).2.1; omega)]
    simp only [if_pos h2]; exact j
  simp only [if_neg h2, if_pos (show (0 : Int) < (l.length : Int) by omega), r0]
  by_cases h3 : ((l.getD 0 []).length : Int) < 1
  · rw [if_neg (fun h => by have := (chk_iff.1 h).2.2.1; unfold wid at this; omega)]
    simp only [if_pos h3]; exact j
  simp only [if_neg h3]
  by_cases h4 : ((l.getD 0 []).length : Int) > 512
  · rw [if_neg (fun h => by have := (chk_iff.1 h).2.2.2.1; unfold wid at this; omega)]
    simp only [decide_eq_true h4]; exact j
  simp only [decide_eq_false h4]
  refine Ev.step (fun k => matrix_Check.j0.eq_2 _ _ k) ?_
  simp only [Bool.false_eq_true, if_false]
  have := Check_any_l0 (l := l) (by omega) (by omega) l.length 0 (by omega) (by omega)
  have iff : (∀ j, j < l.length → 0 ≤ j → (l.getD j []).length = wid l) ↔ chk l = true := by
    rw [chk_iff, all_from]
    unfold wid
    exact ⟨fun h => ⟨by omega, by omega, by omega, by omega, fun i hi => h i hi (Nat.zero_le _)⟩, fun h j hj _ => h.2.2.2.2 j hj⟩
  simp only [iff] at this
  exact this
end Go.Proofs.Ytkdoilmfchlpdaa.R
