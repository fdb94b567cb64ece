/- The document's form; a matrix told by its columns. -/
import Derived.Test.YtkdoilmfchlpdaaChk
import Derived.Test.YtkdoilmfchlpdaaZ3
import Derived.Test.YtkdoilmfchlpdaaZ5

namespace Go.Proofs.Ytkdoilmfchlpdaa.R
open Go.RowKit Go.Proofs.YtkdoilmfchlpdaaW.PrintWords Go.Proofs.YtkdoilmfchlpdaaW.PrintLast Go.Proofs.YtkdoilmfchlpdaaW.PrintMore Go.Proofs.Ytkdoilmfchlpdaa.A GP
set_option linter.unusedVariables false
set_option linter.unusedSimpArgs false
/-- Rows and columns change places. -/
def trs (A : Nat → Nat → G8) : Nat → Nat → G8 := fun i j => A j i
theorem Form_l0 {l : List (List Int)} (h1 : 1 ≤ l.length) (h2 : l.length ≤ 256) : ∀ n i : Nat, l.length - i ≤ n → i ≤ l.length →
    Ev (fun k => culletref11_form.l0 k l (i : Int)) (decide (∀ j, j < l.length → i ≤ j → (l.getD j []).length = wid l)) := by
  intro n
  induction n with
  | zero =>
    intro i h hi
    refine Ev.step (fun k => culletref11_form.l0.eq_2 _ _ k) ?_
    simp only [if_neg (show ¬ ((i : Nat) : Int) < (l.length : Int) by omega)]
    rw [decide_eq_true (fun j _ _ => by omega)]
    exact Ev.now _
  | succ n ih =>
    intro i h hi
    refine Ev.step (fun k => culletref11_form.l0.eq_2 _ _ k) ?_
    by_cases hlt : i < l.length
    · have r0 : rd_L1 l 0 = l.getD 0 [] := rdl (i := 0)
      simp only [if_pos (show ((i : Nat) : Int) < (l.length : Int) by omega), if_pos (show (0 : Int) ≤ (i : Int) by omega), if_pos (show (0 : Int) < (l.length : Int) by omega), rdl, r0]
      by_cases e : (l.getD i []).length = wid l
      · have e' : ((l.getD i []).length : Int) = ((l.getD 0 []).length : Int) := by unfold wid at e; omega
        simp only [if_pos e', wr64 (n := i) (by omega)]
        have := ih (i + 1) (by omega) (by omega)
        have iff : (∀ j, j < l.length → i + 1 ≤ j → (l.getD j []).length = wid l) ↔ (∀ j, j < l.length → i ≤ j → (l.getD j []).length = wid l) :=
          ⟨fun h j hjl hj => by by_cases e1 : j = i; (· rw [e1]; exact e); (· exact h j hjl (by omega)), fun h j hjl hj => h j hjl (by omega)⟩
        simp only [iff] at this
        exact this
      · have e' : ¬ ((l.getD i []).length : Int) = ((l.getD 0 []).length : Int) := by unfold wid at e; omega
        simp only [if_neg e']
        rw [decide_eq_false (fun h => e (h i hlt (Nat.le_refl _)))]
        exact Ev.now _
    · simp only [if_neg (show ¬ ((i : Nat) : Int) < (l.length : Int) by omega)]
      rw [decide_eq_true (fun j _ _ => by omega)]
      exact Ev.now _
theorem Form_any (l : List (List Int)) : Ev (fun k => culletref11_form.f k l) (chk l) := by
  have j : chk l = false → Ev (fun k => culletref11_form.j0 k l true) (chk l) := fun h => by
    rw [h]
    refine Ev.step (fun k => culletref11_form.j0.eq_2 _ _ k) ?_
    simp only [if_true]
    exact Ev.now _
  have r0 : rd_L1 l 0 = l.getD 0 [] := rdl (i := 0)
  have no : ¬ chk l = true → chk l = false := fun h => by simpa using h
  unfold culletref11_form.f
  by_cases h1 : (l.length : Int) < 1
  · simp only [if_pos h1]; exact j (no (fun h => by have := (chk_iff.1 h).1; omega))
  simp only [if_neg h1]
  by_cases h2 : (l.length : Int) > 256
  · simp only [if_pos h2]; exact j (no (fun h => by have := (chk_iff.1 h).2.1; omega))
  simp only [if_neg h2, if_pos (show (0 : Int) < (l.length : Int) by omega), r0]
  by_cases h3 : ((l.getD 0 []).length : Int) < 1
  · simp only [if_pos h3]; exact j (no (fun h => by have := (chk_iff.1 h).2.2.1; unfold wid at this; omega))
  simp only [if_neg h3]
  by_cases h4 : ((l.getD 0 []).length : Int) > 512
  · simp only [decide_eq_true h4]; exact j (no (fun h => by have := (chk_iff.1 h).2.2.2.1; unfold wid at this; omega))
  simp only [decide_eq_false h4]
  refine Ev.step (fun k => culletref11_form.j0.eq_2 _ _ k) ?_
  simp only [Bool.false_eq_true, if_false]
  have := Form_l0 (l := l) (by omega) (by omega) l.length 0 (by omega) (by omega)
  have iff : (∀ j, j < l.length → 0 ≤ j → (l.getD j []).length = wid l) ↔ chk l = true := by
    rw [chk_iff, all_from]
    unfold wid
    exact ⟨fun h => ⟨by omega, by omega, by omega, by omega, fun i hi => h i hi (Nat.zero_le _)⟩, fun h j hj _ => h.2.2.2.2 j hj⟩
  have e : decide (∀ j, j < l.length → 0 ≤ j → (l.getD j []).length = wid l) = chk l := by
    cases hcl : chk l with
    | true => rw [hcl] at iff; exact decide_eq_true (iff.2 rfl)
    | false => rw [hcl] at iff; exact decide_eq_false (fun h => by have := iff.1 h; exact absurd this (by simp))
  rw [e] at this
  exact this
/-- A column without a pivot: at the end there are too few. -/
theorem gj_up (m : Nat) (A : Nat → Nat → G8) (c : Nat) : (LA.gj m A (c + 1)).2.1.length ≤ (LA.gj m A c).2.1.length + 1 := by
  show (LA.turn m (LA.gj m A c) c).2.1.length ≤ _
  unfold LA.turn
  split
  · show (LA.gj m A c).2.1.length ≤ _; omega
  · simp
theorem gj_short {m c n : Nat} {A : Nat → Nat → G8} (h : (LA.gj m A (c + 1)).2.1.length ≤ c) (hcn : c + 1 ≤ n) : (LA.gj m A n).2.1.length < n := by
  have : ∀ d, (LA.gj m A (c + 1 + d)).2.1.length ≤ c + d := by
    intro d
    induction d with
    | zero => exact h
    | succ d ih => have := gj_up m A (c + 1 + d); rw [← Nat.add_assoc]; omega
  have h2 := this (n - (c + 1))
  rw [show c + 1 + (n - (c + 1)) = n by omega] at h2
  omega
end Go.Proofs.Ytkdoilmfchlpdaa.R
