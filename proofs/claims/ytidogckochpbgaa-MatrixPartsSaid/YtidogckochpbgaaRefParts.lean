/- The document's Mul, Transpose and Sub of layer 10. -/
import Derived.Test.YtidogckochpbgaaMatOps
import Derived.Test.YtidogckochpbgaaTransOps
import Derived.Test.YtidogckochpbgaaRef02Fns
import Derived.Test.YtidogckochpbgaaRefZeros
import Derived.Test.YtidogckochpbgaaEx2
import Derived.Test.YtidogckochpbgaaEx3
import Derived.Test.YtidogckochpbgaaEx4

namespace Go.Proofs.Ytidogckochpbgaa.R
open Go.RowKit Go.Proofs.YtidogckochpbgaaW.PrintWords Go.Proofs.YtidogckochpbgaaW.PrintLast Go.Proofs.YtidogckochpbgaaW.PrintMore Go.Proofs.Ytidogckochpbgaa.A GP
open Go.Proofs.Ytidogckochpbgaa.E (culletref10_Mul.f culletref10_Mul.j0 culletref10_Mul.l0 culletref10_Mul.l1 culletref10_Mul.l2 culletref10_Transpose.f culletref10_Transpose.j0 culletref10_Transpose.l0 culletref10_Transpose.l1 culletref10_Sub.f culletref10_Sub.j0 culletref10_Sub.l0 culletref10_Sub.l1 culletref10_Mul.j0.eq_2 culletref10_Mul.l0.eq_2 culletref10_Mul.l1.eq_2 culletref10_Mul.l2.eq_2 culletref10_Transpose.j0.eq_2 culletref10_Transpose.l0.eq_2 culletref10_Transpose.l1.eq_2 culletref10_Sub.j0.eq_2 culletref10_Sub.l0.eq_2 culletref10_Sub.l1.eq_2)
set_option linter.unusedVariables false
set_option linter.unusedSimpArgs false
theorem e_rd : @E.rd_L1 = @A.rd_L1 := rfl
/-- The product, made cell by cell as far as t summands of cell (i, j). -/
def pTo (q : Nat) (A B : Nat → Nat → G8) (i j t : Nat) : Nat → Nat → G8 := fun a b => if a < i ∨ a = i ∧ b < j then LA.mm q A B a b else if a = i ∧ b = j then LA.sm t (fun k => A i k * B k j) else 0
theorem pTo_at (q : Nat) (A B : Nat → Nat → G8) (i j t : Nat) : pTo q A B i j t i j = LA.sm t (fun k => A i k * B k j) := by
  unfold pTo; rw [if_neg (by omega), if_pos ⟨rfl, rfl⟩]
theorem RMul_mt {m q c : Nat} (hm1 : 1 ≤ m) (hm : m ≤ 256) (hq1 : 1 ≤ q) (hq : q ≤ 256) (hc1 : 1 ≤ c) (hc : c ≤ 512) (A B : Nat → Nat → G8) :
    Ev (fun k => culletref10_Mul.f k (mt m q A) (mt q c B)) (mt m c (LA.mm q A B), (0 : Int)) := by
  have r1 : Go.Proofs.Ytidogckochpbgaa.A.rd_L1 (mt q c B) 0 = rw8 c (B 0) := mt_row (i := 0) (by omega) c B
  have l2 : ∀ i j : Nat, i < m → j < c → Ev (fun k => culletref10_Mul.l1 k (mt m q A) (mt q c B) (mt m c (pTo q A B i (j + 1) 0)) (i : Int) (((j + 1 : Nat)) : Int)) (mt m c (LA.mm q A B), (0 : Int)) →
      ∀ d t : Nat, q - t ≤ d → t ≤ q → Ev (fun k => culletref10_Mul.l2 k (mt m q A) (mt q c B) (mt m c (pTo q A B i j t)) (i : Int) (j : Int) (t : Int)) (mt m c (LA.mm q A B), (0 : Int)) := by
    intro i j hi hj next
    have fin : ∀ t : Nat, ¬ t < q → t ≤ q → Ev (fun k => culletref10_Mul.l2 k (mt m q A) (mt q c B) (mt m c (pTo q A B i j t)) (i : Int) (j : Int) (t : Int)) (mt m c (LA.mm q A B), (0 : Int)) := by
      intro t h1 h2
      obtain rfl : t = q := by omega
      refine Ev.step (fun k => culletref10_Mul.l2.eq_2 _ _ _ _ _ _ k) ?_
      simp only [mt_len, if_neg (show ¬ ((t : Nat) : Int) < (t : Int) by omega), wr64 (n := j) (by omega)]
      have e : mt m c (pTo t A B i j t) = mt m c (pTo t A B i (j + 1) 0) := mt_congr (fun a b _ hb => by
        unfold pTo
        by_cases h : a < i ∨ a = i ∧ b < j
        · rw [if_pos h, if_pos (by omega)]
        · rw [if_neg h]
          by_cases h2 : a = i ∧ b = j
          · obtain ⟨rfl, rfl⟩ := h2
            rw [if_pos ⟨rfl, rfl⟩, if_pos (by omega)]
            rfl
          · rw [if_neg h2, if_neg (by omega)]
            by_cases h3 : a = i ∧ b = j + 1
            · rw [if_pos h3]; rfl
            · rw [if_neg h3])
      rw [e]
      exact next
    intro d
    induction d with
    | zero => intro t h ht; exact fin t (by omega) ht
    | succ d ih =>
      intro t h ht
      by_cases hlt : t < q
      · refine Ev.step (fun k => culletref10_Mul.l2.eq_2 _ _ _ _ _ _ k) ?_
        have e := mt_put (r := m) (c := c) hi j (pTo q A B i j t) (pTo q A B i j t i j + A i t * B t j)
        rw [mt_row hi, mt_congr (A := fun a b => if a = i ∧ b = j then pTo q A B i j t i j + A i t * B t j else pTo q A B i j t a b) (B := pTo q A B i j (t + 1)) (fun a b _ _ => by
          by_cases h : a = i ∧ b = j
          · obtain ⟨rfl, rfl⟩ := h
            rw [if_pos ⟨rfl, rfl⟩, pTo_at, pTo_at]; rfl
          · rw [if_neg h]; unfold pTo; rw [if_neg h, if_neg h])] at e
        have ex : Go.bits .xor .u8 (((pTo q A B i j t i j).v : Nat) : Int) ((m8 (A i t).v (B t j).v : Nat) : Int) = (((pTo q A B i j t i j + A i t * B t j).v : Nat) : Int) := bits_xor8 (pTo q A B i j t i j).2 (m8_lt _ _)
        simp only [e_rd, mt_len, if_pos (show ((t : Nat) : Int) < (q : Int) by omega), if_pos (show (0 : Int) ≤ (i : Int) by omega), if_pos (show ((i : Nat) : Int) < (m : Int) by omega), if_pos (show (0 : Int) ≤ (j : Int) by omega), mt_row hi, rw8_len, if_pos (show ((j : Nat) : Int) < (c : Int) by omega), if_pos (show (0 : Int) ≤ (t : Int) by omega), mt_row hlt, rw8_get hlt, rw8_get hj]
        refine Ev.bind (RefMul8 (A i t).2 (B t j).2) ?_
        simp only [Int.toNat_natCast, ex, e, wr64 (n := t) (by omega)]
        exact ih (t + 1) (by omega) (by omega)
      · exact fin t hlt ht
  have l1 : ∀ i : Nat, i < m → Ev (fun k => culletref10_Mul.l0 k (mt m q A) (mt q c B) (mt m c (pTo q A B (i + 1) 0 0)) (((i + 1 : Nat)) : Int)) (mt m c (LA.mm q A B), (0 : Int)) →
      ∀ d j : Nat, c - j ≤ d → j ≤ c → Ev (fun k => culletref10_Mul.l1 k (mt m q A) (mt q c B) (mt m c (pTo q A B i j 0)) (i : Int) (j : Int)) (mt m c (LA.mm q A B), (0 : Int)) := by
    intro i hi next
    have fin : ∀ j : Nat, ¬ j < c → j ≤ c → Ev (fun k => culletref10_Mul.l1 k (mt m q A) (mt q c B) (mt m c (pTo q A B i j 0)) (i : Int) (j : Int)) (mt m c (LA.mm q A B), (0 : Int)) := by
      intro j h1 h2
      obtain rfl : j = c := by omega
      refine Ev.step (fun k => culletref10_Mul.l1.eq_2 _ _ _ _ _ k) ?_
      simp only [e_rd, mt_len, if_pos (show (0 : Int) < (q : Int) by omega), r1, rw8_len, if_neg (show ¬ ((j : Nat) : Int) < (j : Int) by omega), wr64 (n := i) (by omega)]
      have e : mt m j (pTo q A B i j 0) = mt m j (pTo q A B (i + 1) 0 0) := mt_congr (fun a b _ hb => by
        unfold pTo
        have h1 : (a < i ∨ a = i ∧ b < j) ↔ (a < i + 1 ∨ a = i + 1 ∧ b < 0) := by omega
        simp only [h1]
        by_cases h : a < i + 1 ∨ a = i + 1 ∧ b < 0
        · rw [if_pos h, if_pos h]
        · rw [if_neg h, if_neg h, if_neg (by omega)]
          by_cases h3 : a = i + 1 ∧ b = 0
          · rw [if_pos h3]; rfl
          · rw [if_neg h3])
      rw [e]
      exact next
    intro d
    induction d with
    | zero => intro j h hj; exact fin j (by omega) hj
    | succ d ih =>
      intro j h hj
      by_cases hlt : j < c
      · refine Ev.step (fun k => culletref10_Mul.l1.eq_2 _ _ _ _ _ k) ?_
        simp only [e_rd, mt_len, if_pos (show (0 : Int) < (q : Int) by omega), r1, rw8_len, if_pos (show ((j : Nat) : Int) < (c : Int) by omega)]
        exact l2 i j hi hlt (ih (j + 1) (by omega) (by omega)) q 0 (by omega) (by omega)
      · exact fin j hlt hj
  have l0 : ∀ d i : Nat, m - i ≤ d → i ≤ m → Ev (fun k => culletref10_Mul.l0 k (mt m q A) (mt q c B) (mt m c (pTo q A B i 0 0)) (i : Int)) (mt m c (LA.mm q A B), (0 : Int)) := by
    have fin : ∀ i : Nat, ¬ i < m → i ≤ m → Ev (fun k => culletref10_Mul.l0 k (mt m q A) (mt q c B) (mt m c (pTo q A B i 0 0)) (i : Int)) (mt m c (LA.mm q A B), (0 : Int)) := by
      intro i h1 h2
      obtain rfl : i = m := by omega
      refine Ev.step (fun k => culletref10_Mul.l0.eq_2 _ _ _ _ k) ?_
      simp only [mt_len, if_neg (show ¬ ((i : Nat) : Int) < (i : Int) by omega)]
      rw [mt_congr (A := pTo q A B i 0 0) (B := LA.mm q A B) (fun a b ha _ => by unfold pTo; rw [if_pos (.inl ha)])]
      exact Ev.now _
    intro d
    induction d with
    | zero => intro i h hi; exact fin i (by omega) hi
    | succ d ih =>
      intro i h hi
      by_cases hlt : i < m
      · refine Ev.step (fun k => culletref10_Mul.l0.eq_2 _ _ _ _ k) ?_
        simp only [mt_len, if_pos (show ((i : Nat) : Int) < (m : Int) by omega)]
        exact l1 i hlt (ih (i + 1) (by omega) (by omega)) c 0 (by omega) (by omega)
      · exact fin i hlt hi
  have c1 := RCheck_any (mt m q A)
  have c2 := RCheck_any (mt q c B)
  rw [chk_mt hm1 hm hq1 (by omega), if_pos rfl] at c1
  rw [chk_mt hq1 hq hc1 hc, if_pos rfl] at c2
  have r0 : Go.Proofs.Ytidogckochpbgaa.A.rd_L1 (mt m q A) 0 = rw8 q (A 0) := mt_row (i := 0) (by omega) q A
  unfold culletref10_Mul.f
  refine Ev.bind c1 ?_
  simp only [if_true]
  refine Ev.bind c2 ?_
  refine Ev.step (fun k => culletref10_Mul.j0.eq_2 _ _ _ k) ?_
  simp only [e_rd, bne_self_eq_false, Bool.false_eq_true, if_false, mt_len, if_pos (show (0 : Int) < (m : Int) by omega), r0, r1, rw8_len, if_true, if_pos (show (0 : Int) < (q : Int) by omega)]
  refine Ev.bind (RZeros (r := m) (c := c) (by omega) (by omega)) ?_
  have := l0 m 0 (by omega) (by omega)
  rw [mt_congr (A := pTo q A B 0 0 0) (B := fun _ _ => 0) (fun a b _ _ => by
    unfold pTo
    rw [if_neg (by omega)]
    by_cases h3 : a = 0 ∧ b = 0
    · rw [if_pos h3]; rfl
    · rw [if_neg h3])] at this
  exact this
/-- Mul and the document's Mul, of anything: the same. -/
theorem Mul_both {a b : List (List Int)} (ha : byt a = true) (hb : byt b = true) : ∃ (r : List (List Int)) (e : Int), Ev (fun k => matrix_Mul.f k a b) (r, e) ∧ Ev (fun k => culletref10_Mul.f k a b) (r, e) ∧ (r = [] ∨ ∃ m c A, m ≤ 256 ∧ c ≤ 512 ∧ r = mt m c A) := by
  have n1 : Ev (fun k => matrix_Mul.j0 k a b true) (([] : List (List Int)), (100 : Int)) := by
    refine Ev.step (fun k => matrix_Mul.j0.eq_2 _ _ _ k) ?_
    simp only [if_true]; exact Ev.now _
  have n2 : Ev (fun k => culletref10_Mul.j0 k a b true) (([] : List (List Int)), (100 : Int)) := by
    refine Ev.step (fun k => culletref10_Mul.j0.eq_2 _ _ _ k) ?_
    simp only [if_true]; exact Ev.now _
  have c1 := Check_any a
  have c2 := Check_any b
  have d1 := RCheck_any a
  have d2 := RCheck_any b
  by_cases hca : chk a = true
  · rw [if_pos hca] at c1 d1
    by_cases hcb : chk b = true
    · rw [if_pos hcb] at c2 d2
      obtain ⟨am1, am2, aw1, aw2, -⟩ := chk_iff.1 hca
      obtain ⟨bm1, bm2, bw1, bw2, -⟩ := chk_iff.1 hcb
      by_cases hd : wid a = b.length
      · have ea := toM_eq hca ha
        have eb := toM_eq hcb hb
        rw [hd] at ea
        refine ⟨_, 0, ?_, ?_, .inr ⟨a.length, wid b, LA.mm b.length (toM a) (toM b), am2, bw2, rfl⟩⟩
        · have := Mul_mt am1 am2 bm1 bm2 bw1 bw2 (toM a) (toM b)
          rw [← ea, ← eb] at this; exact this
        · have := RMul_mt am1 am2 bm1 bm2 bw1 bw2 (toM a) (toM b)
          rw [← ea, ← eb] at this; exact this
      · have r0 : Go.Proofs.Ytidogckochpbgaa.A.rd_L1 a 0 = a.getD 0 [] := rdl (i := 0)
        have hd' : ¬ (((a.getD 0 []).length : Nat) : Int) = (b.length : Int) := by unfold wid at hd; omega
        refine ⟨[], 101, ?_, ?_, .inl rfl⟩
        · unfold matrix_Mul.f
          refine Ev.bind c1 ?_
          simp only [if_true]
          refine Ev.bind c2 ?_
          refine Ev.step (fun k => matrix_Mul.j0.eq_2 _ _ _ k) ?_
          simp only [bne_self_eq_false, Bool.false_eq_true, if_false, if_pos (show (0 : Int) < (a.length : Int) by omega), r0, if_neg hd']
          exact Ev.now _
        · unfold culletref10_Mul.f
          refine Ev.bind d1 ?_
          simp only [if_true]
          refine Ev.bind d2 ?_
          refine Ev.step (fun k => culletref10_Mul.j0.eq_2 _ _ _ k) ?_
          simp only [e_rd, bne_self_eq_false, Bool.false_eq_true, if_false, if_pos (show (0 : Int) < (a.length : Int) by omega), r0, if_neg hd']
          exact Ev.now _
    · rw [if_neg hcb] at c2 d2
      refine ⟨[], 100, ?_, ?_, .inl rfl⟩
      · unfold matrix_Mul.f
        refine Ev.bind c1 ?_
        simp only [if_true]
        refine Ev.bind c2 ?_
        exact n1
      · unfold culletref10_Mul.f
        refine Ev.bind d1 ?_
        simp only [if_true]
        refine Ev.bind d2 ?_
        exact n2
  · rw [if_neg hca] at c1 d1
    refine ⟨[], 100, ?_, ?_, .inl rfl⟩
    · unfold matrix_Mul.f
      refine Ev.bind c1 ?_
      simp only [if_neg (show ¬ (100 : Int) = 0 by decide)]
      exact n1
    · unfold culletref10_Mul.f
      refine Ev.bind d1 ?_
      simp only [if_neg (show ¬ (100 : Int) = 0 by decide)]
      exact n2
/-- The transposed matrix, made cell by cell. -/
def rtTo (A : Nat → Nat → G8) (i j : Nat) : Nat → Nat → G8 := fun a b => if a < i ∨ a = i ∧ b < j then A b a else 0
theorem RTranspose_mt {m c : Nat} (hm1 : 1 ≤ m) (hm : m ≤ 256) (hc1 : 1 ≤ c) (hc : c ≤ 256) (A : Nat → Nat → G8) :
    Ev (fun k => culletref10_Transpose.f k (mt m c A)) (mt c m (fun i j => A j i), (0 : Int)) := by
  have l1 : ∀ i : Nat, i < c → Ev (fun k => culletref10_Transpose.l0 k (mt m c A) (mt c m (rtTo A (i + 1) 0)) (((i + 1 : Nat)) : Int)) (mt c m (fun i j => A j i), (0 : Int)) →
      ∀ d j : Nat, m - j ≤ d → j ≤ m → Ev (fun k => culletref10_Transpose.l1 k (mt m c A) (mt c m (rtTo A i j)) (i : Int) (j : Int)) (mt c m (fun i j => A j i), (0 : Int)) := by
    intro i hi next
    have fin : ∀ j : Nat, ¬ j < m → j ≤ m → Ev (fun k => culletref10_Transpose.l1 k (mt m c A) (mt c m (rtTo A i j)) (i : Int) (j : Int)) (mt c m (fun i j => A j i), (0 : Int)) := by
      intro j h1 h2
      obtain rfl : j = m := by omega
      refine Ev.step (fun k => culletref10_Transpose.l1.eq_2 _ _ _ _ k) ?_
      simp only [mt_len, if_neg (show ¬ ((j : Nat) : Int) < (j : Int) by omega), wr64 (n := i) (by omega)]
      rw [mt_congr (A := rtTo A i j) (B := rtTo A (i + 1) 0) (fun a b _ hb => by
        unfold rtTo
        have : (a < i ∨ a = i ∧ b < j) ↔ (a < i + 1 ∨ a = i + 1 ∧ b < 0) := by omega
        simp only [this])]
      exact next
    intro d
    induction d with
    | zero => intro j h hj; exact fin j (by omega) hj
    | succ d ih =>
      intro j h hj
      by_cases hlt : j < m
      · refine Ev.step (fun k => culletref10_Transpose.l1.eq_2 _ _ _ _ k) ?_
        have e := mt_put (r := c) (c := m) hi j (rtTo A i j) (A j i)
        rw [mt_row hi, mt_congr (A := fun a b => if a = i ∧ b = j then A j i else rtTo A i j a b) (B := rtTo A i (j + 1)) (fun a b _ _ => by
          unfold rtTo
          by_cases h : a = i ∧ b = j
          · obtain ⟨rfl, rfl⟩ := h
            rw [if_pos ⟨rfl, rfl⟩, if_pos (.inr ⟨rfl, by omega⟩)]
          · rw [if_neg h]
            have : (a < i ∨ a = i ∧ b < j) ↔ (a < i ∨ a = i ∧ b < j + 1) := by omega
            simp only [this])] at e
        simp only [e_rd, mt_len, if_pos (show ((j : Nat) : Int) < (m : Int) by omega), if_pos (show (0 : Int) ≤ (i : Int) by omega), if_pos (show ((i : Nat) : Int) < (c : Int) by omega), if_pos (show (0 : Int) ≤ (j : Int) by omega), mt_row hlt, mt_row hi, rw8_len, rw8_get hi, Int.toNat_natCast, e, wr64 (n := j) (by omega)]
        exact ih (j + 1) (by omega) (by omega)
      · exact fin j hlt hj
  have l0 : ∀ d i : Nat, c - i ≤ d → i ≤ c → Ev (fun k => culletref10_Transpose.l0 k (mt m c A) (mt c m (rtTo A i 0)) (i : Int)) (mt c m (fun i j => A j i), (0 : Int)) := by
    have fin : ∀ i : Nat, ¬ i < c → i ≤ c → Ev (fun k => culletref10_Transpose.l0 k (mt m c A) (mt c m (rtTo A i 0)) (i : Int)) (mt c m (fun i j => A j i), (0 : Int)) := by
      intro i h1 h2
      obtain rfl : i = c := by omega
      refine Ev.step (fun k => culletref10_Transpose.l0.eq_2 _ _ _ k) ?_
      simp only [mt_len, if_neg (show ¬ ((i : Nat) : Int) < (i : Int) by omega)]
      rw [mt_congr (A := rtTo A i 0) (B := fun i j => A j i) (fun a b ha _ => by unfold rtTo; rw [if_pos (.inl ha)])]
      exact Ev.now _
    intro d
    induction d with
    | zero => intro i h hi; exact fin i (by omega) hi
    | succ d ih =>
      intro i h hi
      by_cases hlt : i < c
      · refine Ev.step (fun k => culletref10_Transpose.l0.eq_2 _ _ _ k) ?_
        simp only [mt_len, if_pos (show ((i : Nat) : Int) < (c : Int) by omega)]
        exact l1 i hlt (ih (i + 1) (by omega) (by omega)) m 0 (by omega) (by omega)
      · exact fin i hlt hi
  have c1 := RCheck_any (mt m c A)
  rw [chk_mt hm1 hm hc1 (by omega), if_pos rfl] at c1
  have r0 : Go.Proofs.Ytidogckochpbgaa.A.rd_L1 (mt m c A) 0 = rw8 c (A 0) := mt_row (i := 0) (by omega) c A
  unfold culletref10_Transpose.f
  refine Ev.bind c1 ?_
  simp only [e_rd, if_true, mt_len, if_pos (show (0 : Int) < (m : Int) by omega), r0, rw8_len, decide_eq_false (show ¬ (c : Int) > 256 by omega)]
  refine Ev.step (fun k => culletref10_Transpose.j0.eq_2 _ _ k) ?_
  simp only [e_rd, Bool.false_eq_true, if_false, mt_len, if_pos (show (0 : Int) < (m : Int) by omega), r0, rw8_len]
  refine Ev.bind (RZeros (r := c) (c := m) (by omega) (by omega)) ?_
  have := l0 c 0 (by omega) (by omega)
  rw [mt_congr (A := rtTo A 0 0) (B := fun _ _ => 0) (fun a b _ _ => by
    unfold rtTo
    rw [if_neg (by omega)])] at this
  exact this
theorem Transpose_both {a : List (List Int)} (ha : byt a = true) : ∃ (r : List (List Int)) (e : Int), Ev (fun k => matrix_Transpose.f k a) (r, e) ∧ Ev (fun k => culletref10_Transpose.f k a) (r, e) ∧ (r = [] ∨ ∃ m c A, m ≤ 256 ∧ c ≤ 512 ∧ r = mt m c A) := by
  have n1 : Ev (fun k => matrix_Transpose.j0 k a true) (([] : List (List Int)), (100 : Int)) := by
    refine Ev.step (fun k => matrix_Transpose.j0.eq_2 _ _ k) ?_
    simp only [if_true]; exact Ev.now _
  have n2 : Ev (fun k => culletref10_Transpose.j0 k a true) (([] : List (List Int)), (100 : Int)) := by
    refine Ev.step (fun k => culletref10_Transpose.j0.eq_2 _ _ k) ?_
    simp only [if_true]; exact Ev.now _
  have c1 := Check_any a
  have d1 := RCheck_any a
  by_cases hca : chk a = true
  · rw [if_pos hca] at c1 d1
    obtain ⟨am1, am2, aw1, aw2, -⟩ := chk_iff.1 hca
    by_cases hd : wid a ≤ 256
    · have ea := toM_eq hca ha
      refine ⟨_, 0, ?_, ?_, .inr ⟨wid a, a.length, fun i j => toM a j i, hd, by omega, rfl⟩⟩
      · have := Transpose_mt am1 am2 aw1 hd (toM a)
        rw [← ea] at this; exact this
      · have := RTranspose_mt am1 am2 aw1 hd (toM a)
        rw [← ea] at this; exact this
    · have r0 : Go.Proofs.Ytidogckochpbgaa.A.rd_L1 a 0 = a.getD 0 [] := rdl (i := 0)
      have hd' : (((a.getD 0 []).length : Nat) : Int) > 256 := by unfold wid at hd; omega
      refine ⟨[], 100, ?_, ?_, .inl rfl⟩
      · unfold matrix_Transpose.f
        refine Ev.bind c1 ?_
        simp only [if_true, if_pos (show (0 : Int) < (a.length : Int) by omega), r0, decide_eq_true hd']
        exact n1
      · unfold culletref10_Transpose.f
        refine Ev.bind d1 ?_
        simp only [e_rd, if_true, if_pos (show (0 : Int) < (a.length : Int) by omega), r0, decide_eq_true hd']
        exact n2
  · rw [if_neg hca] at c1 d1
    refine ⟨[], 100, ?_, ?_, .inl rfl⟩
    · unfold matrix_Transpose.f
      refine Ev.bind c1 ?_
      simp only [if_neg (show ¬ (100 : Int) = 0 by decide)]
      exact n1
    · unfold culletref10_Transpose.f
      refine Ev.bind d1 ?_
      simp only [if_neg (show ¬ (100 : Int) = 0 by decide)]
      exact n2
/-- A part, made cell by cell. -/
def suTo (A : Nat → Nat → G8) (r0 c0 i j : Nat) : Nat → Nat → G8 := fun a b => if a < i ∨ a = i ∧ b < j then A (r0 + a) (c0 + b) else 0
theorem RSub_mt {m c r0 r1 c0 c1 : Nat} (hm1 : 1 ≤ m) (hm : m ≤ 256) (hc1 : 1 ≤ c) (hc : c ≤ 512) (hr : r0 < r1) (hr1 : r1 ≤ m) (hcc : c0 < c1) (hc1' : c1 ≤ c) (A : Nat → Nat → G8) :
    Ev (fun k => culletref10_Sub.f k (mt m c A) (r0 : Int) (r1 : Int) (c0 : Int) (c1 : Int)) (mt (r1 - r0) (c1 - c0) (fun i j => A (r0 + i) (c0 + j)), (0 : Int)) := by
  have l1 : ∀ i : Nat, i < r1 - r0 → Ev (fun k => culletref10_Sub.l0 k (mt m c A) (r0 : Int) (r1 : Int) (c0 : Int) (c1 : Int) (mt (r1 - r0) (c1 - c0) (suTo A r0 c0 (i + 1) 0)) (((r0 + i + 1 : Nat)) : Int)) (mt (r1 - r0) (c1 - c0) (fun i j => A (r0 + i) (c0 + j)), (0 : Int)) →
      ∀ d j : Nat, c1 - c0 - j ≤ d → j ≤ c1 - c0 → Ev (fun k => culletref10_Sub.l1 k (mt m c A) (r0 : Int) (r1 : Int) (c0 : Int) (c1 : Int) (mt (r1 - r0) (c1 - c0) (suTo A r0 c0 i j)) ((r0 + i : Nat) : Int) ((c0 + j : Nat) : Int)) (mt (r1 - r0) (c1 - c0) (fun i j => A (r0 + i) (c0 + j)), (0 : Int)) := by
    intro i hi next
    have fin : ∀ j : Nat, ¬ j < c1 - c0 → j ≤ c1 - c0 → Ev (fun k => culletref10_Sub.l1 k (mt m c A) (r0 : Int) (r1 : Int) (c0 : Int) (c1 : Int) (mt (r1 - r0) (c1 - c0) (suTo A r0 c0 i j)) ((r0 + i : Nat) : Int) ((c0 + j : Nat) : Int)) (mt (r1 - r0) (c1 - c0) (fun i j => A (r0 + i) (c0 + j)), (0 : Int)) := by
      intro j h1 h2
      obtain rfl : j = c1 - c0 := by omega
      refine Ev.step (fun k => culletref10_Sub.l1.eq_2 _ _ _ _ _ _ _ _ k) ?_
      simp only [if_neg (show ¬ ((c0 + (c1 - c0) : Nat) : Int) < (c1 : Int) by omega), wr64 (n := r0 + i) (by omega)]
      rw [mt_congr (A := suTo A r0 c0 i (c1 - c0)) (B := suTo A r0 c0 (i + 1) 0) (fun a b _ hb => by
        unfold suTo
        have : (a < i ∨ a = i ∧ b < c1 - c0) ↔ (a < i + 1 ∨ a = i + 1 ∧ b < 0) := by omega
        simp only [this])]
      exact next
    intro d
    induction d with
    | zero => intro j h hj; exact fin j (by omega) hj
    | succ d ih =>
      intro j h hj
      by_cases hlt : j < c1 - c0
      · refine Ev.step (fun k => culletref10_Sub.l1.eq_2 _ _ _ _ _ _ _ _ k) ?_
        have e := mt_put (r := r1 - r0) (c := c1 - c0) hi j (suTo A r0 c0 i j) (A (r0 + i) (c0 + j))
        rw [mt_row hi, mt_congr (A := fun a b => if a = i ∧ b = j then A (r0 + i) (c0 + j) else suTo A r0 c0 i j a b) (B := suTo A r0 c0 i (j + 1)) (fun a b _ _ => by
          unfold suTo
          by_cases h : a = i ∧ b = j
          · obtain ⟨rfl, rfl⟩ := h
            rw [if_pos ⟨rfl, rfl⟩, if_pos (.inr ⟨rfl, by omega⟩)]
          · rw [if_neg h]
            have : (a < i ∨ a = i ∧ b < j) ↔ (a < i ∨ a = i ∧ b < j + 1) := by omega
            simp only [this])] at e
        have w1 : wrap64 (((r0 + i : Nat) : Int) - (r0 : Int)) = (i : Int) := by rw [wrap64_id (by omega) (by omega)]; omega
        have w2 : wrap64 (((c0 + j : Nat) : Int) - (c0 : Int)) = (j : Int) := by rw [wrap64_id (by omega) (by omega)]; omega
        simp only [e_rd, w1, w2, mt_len, if_pos (show ((c0 + j : Nat) : Int) < (c1 : Int) by omega), if_pos (show (0 : Int) ≤ (i : Int) by omega), if_pos (show ((i : Nat) : Int) < ((r1 - r0 : Nat) : Int) by omega), if_pos (show (0 : Int) ≤ ((r0 + i : Nat) : Int) by omega), if_pos (show ((r0 + i : Nat) : Int) < (m : Int) by omega), if_pos (show (0 : Int) ≤ ((c0 + j : Nat) : Int) by omega), mt_row (show r0 + i < m by omega), rw8_len, if_pos (show ((c0 + j : Nat) : Int) < (c : Int) by omega), if_pos (show (0 : Int) ≤ (j : Int) by omega), mt_row hi, if_pos (show ((j : Nat) : Int) < ((c1 - c0 : Nat) : Int) by omega), rw8_get (show c0 + j < c by omega), Int.toNat_natCast, e, wr64 (n := c0 + j) (by omega)]
        exact ih (j + 1) (by omega) (by omega)
      · exact fin j hlt hj
  have l0 : ∀ d i : Nat, r1 - r0 - i ≤ d → i ≤ r1 - r0 → Ev (fun k => culletref10_Sub.l0 k (mt m c A) (r0 : Int) (r1 : Int) (c0 : Int) (c1 : Int) (mt (r1 - r0) (c1 - c0) (suTo A r0 c0 i 0)) ((r0 + i : Nat) : Int)) (mt (r1 - r0) (c1 - c0) (fun i j => A (r0 + i) (c0 + j)), (0 : Int)) := by
    have fin : ∀ i : Nat, ¬ i < r1 - r0 → i ≤ r1 - r0 → Ev (fun k => culletref10_Sub.l0 k (mt m c A) (r0 : Int) (r1 : Int) (c0 : Int) (c1 : Int) (mt (r1 - r0) (c1 - c0) (suTo A r0 c0 i 0)) ((r0 + i : Nat) : Int)) (mt (r1 - r0) (c1 - c0) (fun i j => A (r0 + i) (c0 + j)), (0 : Int)) := by
      intro i h1 h2
      obtain rfl : i = r1 - r0 := by omega
      refine Ev.step (fun k => culletref10_Sub.l0.eq_2 _ _ _ _ _ _ _ k) ?_
      simp only [if_neg (show ¬ ((r0 + (r1 - r0) : Nat) : Int) < (r1 : Int) by omega)]
      rw [mt_congr (A := suTo A r0 c0 (r1 - r0) 0) (B := fun i j => A (r0 + i) (c0 + j)) (fun a b ha _ => by unfold suTo; rw [if_pos (.inl ha)])]
      exact Ev.now _
    intro d
    induction d with
    | zero => intro i h hi; exact fin i (by omega) hi
    | succ d ih =>
      intro i h hi
      by_cases hlt : i < r1 - r0
      · refine Ev.step (fun k => culletref10_Sub.l0.eq_2 _ _ _ _ _ _ _ k) ?_
        simp only [if_pos (show ((r0 + i : Nat) : Int) < (r1 : Int) by omega)]
        exact l1 i hlt (ih (i + 1) (by omega) (by omega)) (c1 - c0) 0 (by omega) (by omega)
      · exact fin i hlt hi
  have k1 := RCheck_any (mt m c A)
  rw [chk_mt hm1 hm hc1 (by omega), if_pos rfl] at k1
  have g0 : Go.Proofs.Ytidogckochpbgaa.A.rd_L1 (mt m c A) 0 = rw8 c (A 0) := mt_row (i := 0) (by omega) c A
  have w1 : wrap64 ((r1 : Int) - (r0 : Int)) = ((r1 - r0 : Nat) : Int) := by rw [wrap64_id (by omega) (by omega)]; omega
  have w2 : wrap64 ((c1 : Int) - (c0 : Int)) = ((c1 - c0 : Nat) : Int) := by rw [wrap64_id (by omega) (by omega)]; omega
  unfold culletref10_Sub.f
  refine Ev.bind k1 ?_
  simp only [e_rd, if_true, mt_len, if_neg (show ¬ (r0 : Int) < 0 by omega), if_neg (show ¬ (r0 : Int) ≥ (r1 : Int) by omega), if_neg (show ¬ (r1 : Int) > (m : Int) by omega), if_neg (show ¬ (c0 : Int) < 0 by omega), if_neg (show ¬ (c0 : Int) ≥ (c1 : Int) by omega), if_pos (show (0 : Int) < (m : Int) by omega), g0, rw8_len, decide_eq_false (show ¬ (c1 : Int) > (c : Int) by omega)]
  refine Ev.step (fun k => culletref10_Sub.j0.eq_2 _ _ _ _ _ _ k) ?_
  simp only [Bool.false_eq_true, if_false, w1, w2]
  refine Ev.bind (RZeros (r := r1 - r0) (c := c1 - c0) (by omega) (by omega)) ?_
  have := l0 (r1 - r0) 0 (by omega) (by omega)
  rw [mt_congr (A := suTo A r0 c0 0 0) (B := fun _ _ => 0) (fun a b _ _ => by
    unfold suTo
    rw [if_neg (by omega)])] at this
  exact this
theorem RSub_no7 {a : List (List Int)} (hca : chk a = true) {r0 r1 c0 c1 : Int} (h : ¬ (0 ≤ r0 ∧ r0 < r1 ∧ r1 ≤ a.length ∧ 0 ≤ c0 ∧ c0 < c1 ∧ c1 ≤ wid a)) : Ev (fun k => culletref10_Sub.f k a r0 r1 c0 c1) (([] : List (List Int)), (7 : Int)) := by
  have n : Ev (fun k => culletref10_Sub.j0 k a r0 r1 c0 c1 true) (([] : List (List Int)), (7 : Int)) := by
    refine Ev.step (fun k => culletref10_Sub.j0.eq_2 _ _ _ _ _ _ k) ?_
    simp only [if_true]; exact Ev.now _
  have d1 := RCheck_any a
  rw [if_pos hca] at d1
  obtain ⟨am1, am2, aw1, aw2, -⟩ := chk_iff.1 hca
  have g0 : Go.Proofs.Ytidogckochpbgaa.A.rd_L1 a 0 = a.getD 0 [] := rdl (i := 0)
  unfold culletref10_Sub.f
  refine Ev.bind d1 ?_
  simp only [e_rd, if_true, g0]
  unfold wid at h
  by_cases h1 : r0 < 0
  · simp only [if_pos h1]; exact n
  simp only [if_neg h1]
  by_cases h2 : r0 ≥ r1
  · simp only [if_pos h2]; exact n
  simp only [if_neg h2]
  by_cases h3 : r1 > (a.length : Int)
  · simp only [if_pos h3]; exact n
  simp only [if_neg h3]
  by_cases h4 : c0 < 0
  · simp only [if_pos h4]; exact n
  simp only [if_neg h4]
  by_cases h5 : c0 ≥ c1
  · simp only [if_pos h5]; exact n
  simp only [if_neg h5, if_pos (show (0 : Int) < (a.length : Int) by omega), decide_eq_true (show c1 > (((a.getD 0 []).length : Nat) : Int) by omega)]
  exact n
theorem RSub_no100 {a : List (List Int)} (hca : ¬ chk a = true) (r0 r1 c0 c1 : Int) : Ev (fun k => culletref10_Sub.f k a r0 r1 c0 c1) (([] : List (List Int)), (100 : Int)) := by
  have d1 := RCheck_any a
  rw [if_neg hca] at d1
  unfold culletref10_Sub.f
  refine Ev.bind d1 ?_
  simp only [if_neg (show ¬ (100 : Int) = 0 by decide)]
  exact Ev.now _
end Go.Proofs.Ytidogckochpbgaa.R
