/-
RingProducts: every Degree, Mul and DivMod of the script is the document's. No condition.
-/
import Derived.Test.YthldahaimcdejaaDoorRefRing3
import Derived.Test.YthldahaimcdejaaDoorRefRing4
import Derived.Test.YthldahaimcdejaaDoorPx3

namespace Go.Proofs.YthldahaimcdejaaDoor.Pure
open Go.RowKit Go.Proofs.YthldahaimcdejaaDoor.P Go.Proofs.YthldahaimcdejaaDoor.A Go.Proofs.YthldahaimcdejaaDoorW.PrintWords Go.Proofs.YthldahaimcdejaaDoorW.PrintLast Go.Proofs.YthldahaimcdejaaDoorW.PrintMore Go.Proofs.YthldahaimcdejaaDoor.R GP
set_option linter.unusedVariables false
set_option linter.unusedSimpArgs false
theorem all_l0 {l : List S26} {lo hi : Int} (hl : l.length * 48 ≤ 140737488351232) (h : ∀ x ∈ l, lo ≤ x.f0 → x.f0 ≤ hi → Ev (fun k => culletlaw01_plays.f k x.f0 x.f1 x.f2 x.f3 x.f4) true) :
    ∀ m j : Nat, l.length - j = m → j ≤ l.length → Ev (fun k => culletlaw01_all.l0 k lo hi l (l.length : Int) j) true := by
  intro m
  induction m with
  | zero =>
    intro j hm hj
    refine Ev.step (fun k => culletlaw01_all.l0.eq_2 _ _ _ _ _ k) ?_
    simp only [if_neg (show ¬ ((j : Nat) : Int) < (l.length : Nat) by omega)]
    exact Ev.now _
  | succ m ih =>
    intro j hm hj
    have hjl : j < l.length := by omega
    have ihj := ih (j + 1) (by omega) (by omega)
    refine Ev.step (fun k => culletlaw01_all.l0.eq_2 _ _ _ _ _ k) ?_
    have hx : rd_T26 l (j : Nat) = l[j] := by unfold rd_T26; rw [Int.toNat_natCast, List.getD_eq_getElem?_getD, List.getElem?_eq_getElem hjl]; rfl
    simp only [if_pos (show ((j : Nat) : Int) < (l.length : Nat) by omega), if_pos (show (0 : Int) ≤ ((j : Nat) : Int) by omega), hx]
    rw [wrap64_id (by omega) (by omega), show (j : Int) + 1 = ((j + 1 : Nat) : Int) by omega]
    by_cases h1 : l[j].f0 ≥ lo
    · simp only [if_pos h1]
      by_cases h2 : l[j].f0 ≤ hi
      · simp only [if_pos h2]
        refine Ev.bind (h _ (List.getElem_mem hjl) h1 h2) ?_
        simp only [if_true]
        exact ihj
      · simp only [if_neg h2]
        exact ihj
    · simp only [if_neg h1]
      exact ihj
theorem all_ok {l : List S26} {lo hi : Int} (hl : l.length * 48 ≤ 140737488351232) (h : ∀ x ∈ l, lo ≤ x.f0 → x.f0 ≤ hi → Ev (fun k => culletlaw01_plays.f k x.f0 x.f1 x.f2 x.f3 x.f4) true) :
    Ev (fun k => culletlaw01_all.f k l lo hi) true := all_l0 hl h _ 0 rfl (Nat.zero_le _)
theorem products_ok (kd : Int) {a b : Nat} (c : Int) (s : ByteArray) (ha : a < 2 ^ 64) (hb : b < 2 ^ 64) : Ev (fun k => culletlaw01_products.f k kd a b c s) true := by
  unfold culletlaw01_products.f
  by_cases h1 : kd = 1
  · simp only [if_pos h1, deg ha, Option.bind_some]
    refine Ev.bind (rdeg ha) ?_
    simp only [beq_self_eq_true]
    exact Ev.now _
  · simp only [if_neg h1]
    by_cases h2 : kd = 2
    · simp only [if_pos h2]
      rw [show ((a : Nat) : Int) % 4294967296 = ((a % 4294967296 : Nat) : Int) by omega, show ((b : Nat) : Int) % 4294967296 = ((b % 4294967296 : Nat) : Int) by omega]
      refine Ev.bind (Mul (by omega) (by omega)) ?_
      simp only [RefMul (show a % 4294967296 < 2 ^ 32 by omega) (show b % 4294967296 < 2 ^ 32 by omega), Option.bind_some, beq_self_eq_true]
      exact Ev.now _
    · simp only [if_neg h2]
      by_cases h0 : b = 0
      · subst h0
        simp only [show (((0 : Nat) : Int)) = 0 from rfl, DivMod_zero, RefDivMod_zero ha, Option.bind_some, if_true, beq_self_eq_true]
        exact Ev.now _
      · refine Ev.bind (DivMod h0 ha hb) ?_
        simp only [RefDivMod ha hb h0, Option.bind_some, if_true, beq_self_eq_true]
        exact Ev.now _
theorem RingProducts : culletlaw01_RingProducts.Pure := by
  intro l h
  obtain ⟨hl, hok⟩ := h
  apply Ev.rounds
  unfold culletlaw01_RingProducts.f
  refine Ev.bind (products_ok 2 (a := 3) (b := 3) 0 _ (by decide) (by decide)) ?_
  simp only [if_true]
  refine Ev.bind R.awake ?_
  simp only [if_true]
  refine Ev.bind (all_ok hl (fun x hx h1 h2 => ?_)) (Ev.now _)
  obtain ⟨w0, w1, w2, w3, w4⟩ := hok x hx
  obtain ⟨a, ea, ha⟩ := of_u64 w1
  obtain ⟨b, eb, hb⟩ := of_u64 w2
  rw [ea, eb]
  have key := products_ok x.f0 x.f3 x.f4 ha hb
  have stp : Ev (fun k => culletlaw01_plays.j0 k x.f0 true x.f0 a b x.f3 x.f4) true :=
    Ev.step (fun k => culletlaw01_plays.j0.eq_2 _ _ _ _ _ _ _ k) (by simp only [if_true]; exact Ev.bind key (Ev.now _))
  unfold culletlaw01_plays.f
  have hk : x.f0 = 1 ∨ x.f0 = 2 ∨ x.f0 = 3 := by omega
  rcases hk with e | e | e
  all_goals
    rw [e] at stp
    simp only [e, if_true, if_neg (show ¬ ((2 : Int) = 1) by omega), if_neg (show ¬ ((3 : Int) = 1) by omega), if_neg (show ¬ ((3 : Int) = 2) by omega), beq_self_eq_true]
    exact stp
end Go.Proofs.YthldahaimcdejaaDoor.Pure
