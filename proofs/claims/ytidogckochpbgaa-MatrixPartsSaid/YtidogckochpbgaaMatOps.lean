/- What the printed Mul of layer 10 computes. -/
import Derived.Test.YtidogckochpbgaaIdent
import Derived.Test.YtidogckochpbgaaAx8

namespace Go.Proofs.Ytidogckochpbgaa.R
open Go.RowKit Go.Proofs.YtidogckochpbgaaW.PrintWords Go.Proofs.YtidogckochpbgaaW.PrintLast Go.Proofs.YtidogckochpbgaaW.PrintMore Go.Proofs.Ytidogckochpbgaa.A GP
set_option linter.unusedVariables false
set_option linter.unusedSimpArgs false

/-- The product, made as far as row i, j summands, column t of the next. -/
def mulTo (q : Nat) (A B : Nat → Nat → G8) (i j t : Nat) : Nat → Nat → G8 := fun a b => if a < i then LA.mm q A B a b else if a = i then LA.sm (if b < t then j + 1 else j) (fun k => A i k * B k b) else 0
theorem mulTo_put {m c q : Nat} {A B : Nat → Nat → G8} {i j t : Nat} (hi : i < m) :
    mt m c (fun a b => if a = i ∧ b = t then mulTo q A B i j t i t + A i j * B j t else mulTo q A B i j t a b) = mt m c (mulTo q A B i j (t + 1)) := by
  apply mt_congr
  intro a b _ _
  unfold mulTo
  by_cases ha : a = i
  · subst ha
    by_cases hb : b = t
    · subst hb
      simp only [and_self, if_true, Nat.lt_irrefl, if_false, if_pos (Nat.lt_succ_self b)]
      rfl
    · rw [if_neg (fun h => hb h.2)]
      have : b < t ↔ b < t + 1 := by omega
      simp only [this]
  · rw [if_neg (fun h => ha h.1)]
    simp only [if_neg ha]
theorem Mul_mt {m q c : Nat} (hm1 : 1 ≤ m) (hm : m ≤ 256) (hq1 : 1 ≤ q) (hq : q ≤ 256) (hc1 : 1 ≤ c) (hc : c ≤ 512) (A B : Nat → Nat → G8) :
    Ev (fun k => matrix_Mul.f k (mt m q A) (mt q c B)) (mt m c (LA.mm q A B), (0 : Int)) := by
  have l2 : ∀ i j : Nat, i < m → j < q → (∀ x, x = (((A i j).v : Nat) : Int) → Ev (fun k => matrix_Mul.l1 k (mt q c B) (mt m c (mulTo q A B i (j + 1) 0)) (i : Int) (mt m q A) (m : Int) (i : Int) (rw8 q (A i)) (q : Int) (((j + 1 : Nat)) : Int)) (mt m c (LA.mm q A B), (0 : Int))) →
      ∀ d t : Nat, c - t ≤ d → t ≤ c → Ev (fun k => matrix_Mul.l2 k (mt q c B) (mt m c (mulTo q A B i j t)) (i : Int) (((A i j).v : Nat) : Int) (mt m q A) (m : Int) (i : Int) (rw8 q (A i)) (q : Int) (j : Int) (rw8 c (B j)) (c : Int) (t : Int)) (mt m c (LA.mm q A B), (0 : Int)) := by
    intro i j hi hj next
    have fin : ∀ t : Nat, ¬ t < c → t ≤ c → Ev (fun k => matrix_Mul.l2 k (mt q c B) (mt m c (mulTo q A B i j t)) (i : Int) (((A i j).v : Nat) : Int) (mt m q A) (m : Int) (i : Int) (rw8 q (A i)) (q : Int) (j : Int) (rw8 c (B j)) (c : Int) (t : Int)) (mt m c (LA.mm q A B), (0 : Int)) := by
      intro t h1 h2
      obtain rfl : t = c := by omega
      refine Ev.step (fun k => matrix_Mul.l2.eq_2 _ _ _ _ _ _ _ _ _ _ _ _ _ k) ?_
      simp only [if_neg (show ¬ ((t : Nat) : Int) < (t : Int) by omega), wr64 (n := j) (by omega)]
      have e : mt m t (mulTo q A B i j t) = mt m t (mulTo q A B i (j + 1) 0) := mt_congr (fun a b _ hb => by
        unfold mulTo
        simp only [if_pos hb, if_neg (Nat.not_lt_zero b)])
      rw [e]
      exact next _ rfl
    intro d
    induction d with
    | zero => intro t h ht; exact fin t (by omega) ht
    | succ d ih =>
      intro t h ht
      by_cases hlt : t < c
      · refine Ev.step (fun k => matrix_Mul.l2.eq_2 _ _ _ _ _ _ _ _ _ _ _ _ _ k) ?_
        have e := mt_put (r := m) (c := c) hi t (mulTo q A B i j t) (mulTo q A B i j t i t + A i j * B j t)
        rw [mulTo_put hi, mt_row hi] at e
        have ex : Go.bits .xor .u8 (((mulTo q A B i j t i t).v : Nat) : Int) ((m8 (A i j).v (B j t).v : Nat) : Int) = (((mulTo q A B i j t i t + A i j * B j t).v : Nat) : Int) := bits_xor8 (mulTo q A B i j t i t).2 (m8_lt _ _)
        simp only [if_pos (show ((t : Nat) : Int) < (c : Int) by omega), if_pos (show (0 : Int) ≤ (t : Int) by omega), if_pos (show (0 : Int) ≤ (i : Int) by omega), rw8_len, mt_len, if_pos (show ((i : Nat) : Int) < (m : Int) by omega), mt_row hi, rw8_get hlt, TMul8 (A i j).2 (B j t).2, Option.bind_some, Int.toNat_natCast, ex, e, wr64 (n := t) (by omega)]
        exact ih (t + 1) (by omega) (by omega)
      · exact fin t hlt ht
  have l1 : ∀ i : Nat, i < m → Ev (fun k => matrix_Mul.l0 k (mt q c B) (mt m c (mulTo q A B (i + 1) 0 0)) (mt m q A) (m : Int) (((i + 1 : Nat)) : Int)) (mt m c (LA.mm q A B), (0 : Int)) →
      ∀ d j : Nat, q - j ≤ d → j ≤ q → Ev (fun k => matrix_Mul.l1 k (mt q c B) (mt m c (mulTo q A B i j 0)) (i : Int) (mt m q A) (m : Int) (i : Int) (rw8 q (A i)) (q : Int) (j : Int)) (mt m c (LA.mm q A B), (0 : Int)) := by
    intro i hi next
    have fin : ∀ j : Nat, ¬ j < q → j ≤ q → Ev (fun k => matrix_Mul.l1 k (mt q c B) (mt m c (mulTo q A B i j 0)) (i : Int) (mt m q A) (m : Int) (i : Int) (rw8 q (A i)) (q : Int) (j : Int)) (mt m c (LA.mm q A B), (0 : Int)) := by
      intro j h1 h2
      obtain rfl : j = q := by omega
      refine Ev.step (fun k => matrix_Mul.l1.eq_2 _ _ _ _ _ _ _ _ _ k) ?_
      simp only [if_neg (show ¬ ((j : Nat) : Int) < (j : Int) by omega), wr64 (n := i) (by omega)]
      have e : mt m c (mulTo j A B i j 0) = mt m c (mulTo j A B (i + 1) 0 0) := mt_congr (fun a b _ _ => by
        unfold mulTo
        simp only [if_neg (Nat.not_lt_zero b)]
        by_cases ha : a = i
        · subst ha
          rw [if_neg (by omega), if_pos rfl, if_pos (by omega)]
          rfl
        · by_cases hb : a < i
          · rw [if_pos hb, if_pos (by omega)]
          · rw [if_neg hb, if_neg ha, if_neg (by omega)]
            by_cases h3 : a = i + 1
            · rw [if_pos h3]; rfl
            · rw [if_neg h3])
      rw [e]
      exact next
    intro d
    induction d with
    | zero => intro j h hj; exact fin j (by omega) hj
    | succ d ih =>
      intro j h hj
      by_cases hlt : j < q
      · refine Ev.step (fun k => matrix_Mul.l1.eq_2 _ _ _ _ _ _ _ _ _ k) ?_
        have nx := ih (j + 1) (by omega) (by omega)
        simp only [if_pos (show ((j : Nat) : Int) < (q : Int) by omega), if_pos (show (0 : Int) ≤ (j : Int) by omega), rw8_len, rw8_get hlt, mt_len, mt_row hlt, wr64 (n := j) (by omega)]
        by_cases h0 : (((A i j).v : Nat) : Int) = 0
        · simp only [if_pos h0]
          have hz : A i j = 0 := g8_eq0.2 (by omega)
          rw [mt_congr (A := mulTo q A B i j 0) (B := mulTo q A B i (j + 1) 0) (fun a b _ _ => by
            unfold mulTo
            simp only [if_neg (Nat.not_lt_zero b)]
            by_cases ha : a = i
            · subst ha
              simp only [Nat.lt_irrefl, if_false, if_true]
              show LA.sm j (fun k => A a k * B k b) = LA.sm j (fun k => A a k * B k b) + A a j * B j b
              rw [hz, LA.zero_mul, LA.Fld.add_zero]
            · simp only [if_neg ha])]
          exact nx
        · simp only [if_neg h0]
          exact l2 i j hi hlt (fun _ _ => nx) c 0 (by omega) (by omega)
      · exact fin j hlt hj
  have l0 : ∀ d i : Nat, m - i ≤ d → i ≤ m → Ev (fun k => matrix_Mul.l0 k (mt q c B) (mt m c (mulTo q A B i 0 0)) (mt m q A) (m : Int) (i : Int)) (mt m c (LA.mm q A B), (0 : Int)) := by
    have fin : ∀ i : Nat, ¬ i < m → i ≤ m → Ev (fun k => matrix_Mul.l0 k (mt q c B) (mt m c (mulTo q A B i 0 0)) (mt m q A) (m : Int) (i : Int)) (mt m c (LA.mm q A B), (0 : Int)) := by
      intro i h1 h2
      obtain rfl : i = m := by omega
      refine Ev.step (fun k => matrix_Mul.l0.eq_2 _ _ _ _ _ k) ?_
      simp only [if_neg (show ¬ ((i : Nat) : Int) < (i : Int) by omega)]
      rw [mt_congr (A := mulTo q A B i 0 0) (B := LA.mm q A B) (fun a b ha _ => by unfold mulTo; rw [if_pos ha])]
      exact Ev.now _
    intro d
    induction d with
    | zero => intro i h hi; exact fin i (by omega) hi
    | succ d ih =>
      intro i h hi
      by_cases hlt : i < m
      · refine Ev.step (fun k => matrix_Mul.l0.eq_2 _ _ _ _ _ k) ?_
        simp only [if_pos (show ((i : Nat) : Int) < (m : Int) by omega), if_pos (show (0 : Int) ≤ (i : Int) by omega), mt_len, mt_row hlt, rw8_len]
        exact l1 i hlt (ih (i + 1) (by omega) (by omega)) q 0 (by omega) (by omega)
      · exact fin i hlt hi
  have c1 := Check_any (mt m q A)
  have c2 := Check_any (mt q c B)
  rw [chk_mt hm1 hm hq1 (by omega), if_pos rfl] at c1
  rw [chk_mt hq1 hq hc1 hc, if_pos rfl] at c2
  have r0 : rd_L1 (mt m q A) 0 = rw8 q (A 0) := mt_row (i := 0) (by omega) q A
  have r1 : rd_L1 (mt q c B) 0 = rw8 c (B 0) := mt_row (i := 0) (by omega) c B
  unfold matrix_Mul.f
  refine Ev.bind c1 ?_
  simp only [if_true]
  refine Ev.bind c2 ?_
  refine Ev.step (fun k => matrix_Mul.j0.eq_2 _ _ _ k) ?_
  simp only [bne_self_eq_false, Bool.false_eq_true, if_false, mt_len, if_pos (show (0 : Int) < (m : Int) by omega), r0, r1, rw8_len, if_true, gf8_New.f, Option.bind_some, if_pos (show (0 : Int) < (q : Int) by omega)]
  refine Ev.bind (Blank (r := m) (c := c) (by omega) (by omega)) ?_
  have := l0 m 0 (by omega) (by omega)
  rw [mt_congr (A := mulTo q A B 0 0 0) (B := fun _ _ => 0) (fun a b _ _ => by
    unfold mulTo
    simp only [if_neg (Nat.not_lt_zero a), if_neg (Nat.not_lt_zero b)]
    by_cases ha : a = 0
    · rw [if_pos ha]; rfl
    · rw [if_neg ha])] at this
  exact this
end Go.Proofs.Ytidogckochpbgaa.R
