/- What the theorems' own helpers of layer 15 compute: same, copied, power, brought, fixed. -/
import Derived.Test.YtklkcenffajfeaaWalshLoc
import Derived.Test.YtklkcenffajfeaaQx1
namespace Go.Proofs.Ytklkcenffajfeaa.R
open Go.RowKit Go.Proofs.YtklkcenffajfeaaW.PrintWords Go.Proofs.YtklkcenffajfeaaW.PrintLast Go.Proofs.YtklkcenffajfeaaW.PrintMore Go.Proofs.Ytklkcenffajfeaa.A Go.Proofs.Ytklkcenffajfeaa.Q
set_option linter.unusedVariables false
set_option linter.unusedSimpArgs false
theorem wr64' {n : Nat} (h : n < 2 ^ 62) : wrap64 ((n : Int) + 1) = ((n + 1 : Nat) : Int) := by rw [wrap64_id (by omega) (by omega)]; omega
theorem rd_at {l : List Int} (i : Nat) : rd l (i : Int) = l.getD i 0 := by unfold rd; rw [Int.toNat_natCast]
/-- A loop that counts up to n. -/
theorem ev_loop {α : Type} {r : α} {n : Nat} {L : Nat → Nat → Option α} (fin : Ev (fun k => L k n) r) (step : ∀ i, i < n → Ev (fun k => L k (i + 1)) r → Ev (fun k => L k i) r) : ∀ i, i ≤ n → Ev (fun k => L k i) r := by
  have : ∀ d i, i + d = n → Ev (fun k => L k i) r := by
    intro d
    induction d with
    | zero => intro i h; rw [Nat.add_zero] at h; rw [h]; exact fin
    | succ d ih => intro i h; exact step i (by omega) (ih (i + 1) (by omega))
  exact fun i hi => this (n - i) i (by omega)
theorem Same15 {a b : List Int} (hl : a.length < 2 ^ 62) : Ev (fun k => culletlaw15_same.f k a b) (decide (a = b)) := by
  unfold culletlaw15_same.f
  by_cases h : a.length = b.length
  · simp only [if_pos (show (a.length : Int) = (b.length : Int) by omega)]
    have go : ∀ d i : Nat, a.length - i ≤ d → i ≤ a.length → (∀ j, j < i → a.getD j 0 = b.getD j 0) → Ev (fun k => culletlaw15_same.l0 k a b (a.length : Int) (i : Int)) (decide (a = b)) := by
      have fin : ∀ i : Nat, ¬ i < a.length → (∀ j, j < i → a.getD j 0 = b.getD j 0) → Ev (fun k => culletlaw15_same.l0 k a b (a.length : Int) (i : Int)) (decide (a = b)) := by
        intro i hi hj
        refine Ev.step (fun k => culletlaw15_same.l0.eq_2 _ _ _ _ k) ?_
        simp only [if_neg (show ¬ ((i : Nat) : Int) < (a.length : Int) by omega)]
        have : a = b := by
          apply List.ext_getElem h
          intro j h1 h2
          have := hj j (by omega)
          rwa [List.getD_eq_getElem?_getD, List.getD_eq_getElem?_getD, List.getElem?_eq_getElem h1, List.getElem?_eq_getElem h2] at this
        rw [decide_eq_true this]
        exact Ev.now _
      intro d
      induction d with
      | zero => intro i h1 h2 hj; exact fin i (by omega) hj
      | succ d ih =>
        intro i h1 h2 hj
        by_cases hlt : i < a.length
        · refine Ev.step (fun k => culletlaw15_same.l0.eq_2 _ _ _ _ k) ?_
          simp only [if_pos (show ((i : Nat) : Int) < (a.length : Int) by omega), if_pos (show (0 : Int) ≤ (i : Int) by omega), if_pos (show ((i : Nat) : Int) < (b.length : Int) by omega), rd_at]
          by_cases e : a.getD i 0 = b.getD i 0
          · simp only [if_pos e, wr64' (n := i) (by omega)]
            exact ih (i + 1) (by omega) (by omega) (fun j hj2 => by
              by_cases e2 : j = i
              · subst e2; exact e
              · exact hj j (by omega))
          · simp only [if_neg e]
            have : ¬ a = b := fun e2 => e (by rw [e2])
            rw [decide_eq_false this]
            exact Ev.now _
        · exact fin i hlt hj
    exact go a.length 0 (by omega) (by omega) (fun j hj => by omega)
  · simp only [if_neg (show ¬ (a.length : Int) = (b.length : Int) by omega)]
    have : ¬ a = b := fun e2 => h (by rw [e2])
    rw [decide_eq_false this]
    exact Ev.now _
theorem Same15_self {a b : List Int} (hl : a.length < 2 ^ 62) (h : a = b) : Ev (fun k => culletlaw15_same.f k a b) true := by
  have := Same15 (b := b) hl
  rwa [decide_eq_true h] at this
theorem Copied15 (l : List Int) (hl : l.length ≤ 140737488355328) : Ev (fun k => culletlaw15_copied.f k l) l := by
  unfold culletlaw15_copied.f
  simp only [if_pos (show (0 : Int) ≤ (l.length : Int) by omega), Int.toNat_natCast, if_pos hl]
  have go : ∀ d i : Nat, l.length - i ≤ d → i ≤ l.length → Ev (fun k => culletlaw15_copied.l0 k l (lst l.length (fun j => if j < i then l.getD j 0 else 0)) (l.length : Int) (i : Int)) l := by
    have fin : ∀ i : Nat, ¬ i < l.length → i ≤ l.length → Ev (fun k => culletlaw15_copied.l0 k l (lst l.length (fun j => if j < i then l.getD j 0 else 0)) (l.length : Int) (i : Int)) l := by
      intro i hi h2
      refine Ev.step (fun k => culletlaw15_copied.l0.eq_2 _ _ _ _ k) ?_
      simp only [if_neg (show ¬ ((i : Nat) : Int) < (l.length : Int) by omega)]
      have : lst l.length (fun j => if j < i then l.getD j 0 else 0) = l := by
        conv => rhs; rw [lst_of l]
        exact lst_congr (fun j hj => by rw [if_pos (by omega)])
      rw [this]
      exact Ev.now _
    intro d
    induction d with
    | zero => intro i h1 h2; exact fin i (by omega) h2
    | succ d ih =>
      intro i h1 h2
      by_cases hlt : i < l.length
      · refine Ev.step (fun k => culletlaw15_copied.l0.eq_2 _ _ _ _ k) ?_
        simp only [if_pos (show ((i : Nat) : Int) < (l.length : Int) by omega), if_pos (show (0 : Int) ≤ (i : Int) by omega), lst_len, rd_at, Int.toNat_natCast, lst_set, wr64' (n := i) (by omega)]
        have e : lst l.length (fun a => if a = i then l.getD i 0 else if a < i then l.getD a 0 else 0) = lst l.length (fun j => if j < i + 1 then l.getD j 0 else 0) := lst_congr (fun j hj => by
          by_cases e : j = i
          · subst e; rw [if_pos rfl, if_pos (by omega)]
          · rw [if_neg e]
            have : j < i ↔ j < i + 1 := by omega
            simp only [this])
        rw [e]
        exact ih (i + 1) (by omega) (by omega)
      · exact fin i hlt h2
  have := go l.length 0 (by omega) (by omega)
  have e : lst l.length (fun j => if j < 0 then l.getD j 0 else 0) = List.replicate l.length 0 := by
    apply List.ext_getElem
    · rw [lst_len]; simp
    · intro i h1 h2; simp [lst]
  rwa [e] at this
theorem fixed_tr : walsh_Transform.f [1, 2, 3, 4] = some ([10, 65533, 65531, 0], 0) := by decide +kernel
theorem fixed_pr : walsh_Products.f [1] 2 = some ([1, 1, 44235, 44234], 0) := by
  have := Products_yes (r := 2) (l := [1]) (by decide) (by decide +kernel)
  rw [show ((2 : Nat) : Int) = 2 from rfl] at this
  rw [this]
  decide +kernel
theorem Fixed15 : Ev (fun k => culletlaw15_fixed.f k) true := by
  unfold culletlaw15_fixed.f
  simp only [fixed_tr, fixed_pr, Option.bind_some, if_true]
  refine Ev.bind (Same15_self (by decide) rfl) ?_
  simp only [if_true]
  exact Ev.bind (Same15_self (by decide) rfl) (Ev.now _)
end Go.Proofs.Ytklkcenffajfeaa.R
