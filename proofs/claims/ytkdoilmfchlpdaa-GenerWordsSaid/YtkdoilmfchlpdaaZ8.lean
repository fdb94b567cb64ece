import Derived.Test.YtkdoilmfchlpdaaChk
import Derived.Test.YtkdoilmfchlpdaaMS
import Derived.Test.YtkdoilmfchlpdaaZ4
import Derived.Test.YtkdoilmfchlpdaaZ5
import Derived.Test.YtkdoilmfchlpdaaZ6
import Derived.Test.YtkdoilmfchlpdaaZ3
import Derived.Test.YtkdoilmfchlpdaaRiseL
import Derived.Test.YtkdoilmfchlpdaaLost
import Derived.Test.YtkdoilmfchlpdaaWords
import Derived.Test.YtkdoilmfchlpdaaBx9
import Derived.Test.YtkdoilmfchlpdaaRef02Fns
section
/- What a system's elimination gives: the plain law, and the printed Invert. -/
namespace Go.Proofs.Ytkdoilmfchlpdaa.R
open Go.RowKit Go.Proofs.YtkdoilmfchlpdaaW.PrintWords Go.Proofs.YtkdoilmfchlpdaaW.PrintLast Go.Proofs.YtkdoilmfchlpdaaW.PrintMore Go.Proofs.Ytkdoilmfchlpdaa.A GP
set_option linter.unusedVariables false
set_option linter.unusedSimpArgs false

/-- A column's turn looks at its own and at the columns told of alone. -/
theorem turn_cols {m w c : Nat} (hc : c < w) {S T : Nat → Nat → G8} {ps : List Nat} {d : G8} (h : ∀ i j, i < m → j < w → S i j = T i j) :
    (LA.turn m (S, ps, d) c).2 = (LA.turn m (T, ps, d) c).2 ∧ ∀ i j, i < m → j < w → (LA.turn m (S, ps, d) c).1 i j = (LA.turn m (T, ps, d) c).1 i j := by
  have hfp : LA.fp S c m m ps.length = LA.fp T c m m ps.length := by
    have : ∀ n r, LA.fp S c m n r = LA.fp T c m n r := by
      intro n
      induction n with
      | zero => intro r; rfl
      | succ n ih =>
        intro r
        rw [LA.fp, LA.fp]
        by_cases h1 : r < m
        · rw [if_pos h1, if_pos h1, h r c h1 hc, ih]
        · rw [if_neg h1, if_neg h1]
    exact this m _
  unfold LA.turn
  simp only [hfp]
  cases hf : LA.fp T c m m ps.length with
  | none => exact ⟨rfl, h⟩
  | some q =>
    obtain ⟨h1, h2, h3, -⟩ := LA.fp_some hf
    have ht : ps.length < m := by omega
    have hs : ∀ i j, i < m → j < w → LA.sw S ps.length q i j = LA.sw T ps.length q i j := by
      intro i j hi hj
      unfold LA.sw
      by_cases e1 : i = ps.length
      · rw [if_pos e1, if_pos e1]; exact h q j h2 hj
      · rw [if_neg e1, if_neg e1]
        by_cases e2 : i = q
        · rw [if_pos e2, if_pos e2]; exact h ps.length j ht hj
        · rw [if_neg e2, if_neg e2]; exact h i j hi hj
    have hs2 : ∀ i j, i < m → j < w → LA.scl (LA.sw S ps.length q) ps.length c i j = LA.scl (LA.sw T ps.length q) ps.length c i j := by
      intro i j hi hj
      unfold LA.scl
      by_cases e1 : i = ps.length
      · rw [if_pos e1, if_pos e1]
        show LA.Fld.iv _ * _ = LA.Fld.iv _ * _
        rw [hs _ c ht hc, hs _ j ht hj]
      · rw [if_neg e1, if_neg e1]; exact hs i j hi hj
    refine ⟨?_, ?_⟩
    · show (ps ++ [c], d * S q c) = (ps ++ [c], d * T q c)
      rw [h q c h2 hc]
    · intro i j hi hj
      show LA.clr _ _ _ i j = LA.clr _ _ _ i j
      unfold LA.clr
      by_cases e1 : i = ps.length
      · rw [if_pos e1, if_pos e1]; exact hs2 _ j ht hj
      · rw [if_neg e1, if_neg e1]
        show _ + _ * _ = _ + _ * _
        rw [hs2 i j hi hj, hs2 i c hi hc, hs2 _ j ht hj]
theorem gj_cols {m w : Nat} {S T : Nat → Nat → G8} (h : ∀ i j, i < m → j < w → S i j = T i j) : ∀ c, c ≤ w → (LA.gj m S c).2 = (LA.gj m T c).2 ∧ ∀ i j, i < m → j < w → (LA.gj m S c).1 i j = (LA.gj m T c).1 i j := by
  intro c
  induction c with
  | zero => intro _; exact ⟨rfl, h⟩
  | succ c ih =>
    intro hc
    obtain ⟨h1, h2⟩ := ih (by omega)
    rw [LA.gj, LA.gj]
    have := turn_cols (m := m) (w := w) (c := c) (by omega) (S := (LA.gj m S c).1) (T := (LA.gj m T c).1) (ps := (LA.gj m T c).2.1) (d := (LA.gj m T c).2.2) h2
    have e : LA.gj m S c = ((LA.gj m S c).1, (LA.gj m T c).2.1, (LA.gj m T c).2.2) := Prod.ext rfl h1
    rw [e]
    exact this
theorem gj_beside (n : Nat) (A B : Nat → Nat → G8) : (LA.gj n (beside8 n A B) n).2 = (LA.gj n A n).2 :=
  (gj_cols (m := n) (w := n) (fun i j _ hj => by unfold beside8; rw [if_pos hj]) n (Nat.le_refl _)).1
/-- A system whose matrix has a determinant not 0: what stands beside the unit matrix is the inverse times the right hand. -/
theorem solve_full {n : Nat} (c : Nat) {A B : Nat → Nat → G8} (h : LA.det n A ≠ 0) :
    ∃ P : Nat → Nat → G8, (∀ i j, i < n → j < n → LA.mm n P A i j = LA.one i j) ∧ ∀ i j, i < n → j < c → (LA.gj n (beside8 n A B) n).1 i (n + j) = LA.mm n P B i j := by
  have hl : (LA.gj n (beside8 n A B) n).2.1.length = n := by rw [gj_beside]; exact (LA.gj_full n A).2 h
  obtain ⟨P, hP⟩ := (LA.gj_of n (n + c) (beside8 n A B) n).1
  have hu := (LA.gj_red n (n + c) (beside8 n A B) n).unit hl
  refine ⟨P, fun i j hi hj => ?_, fun i j hi hj => ?_⟩
  · rw [← hu i j hi hj, hP i j hi (by omega)]
    exact LA.sm_congr (fun k hk => by unfold beside8; rw [if_pos hj])
  · rw [hP i (n + j) hi (by omega)]
    exact LA.sm_congr (fun k hk => by unfold beside8; rw [if_neg (by omega), Nat.add_sub_cancel_left])
theorem gj_le (n : Nat) (A : Nat → Nat → G8) : (LA.gj n A n).2.1.length ≤ n := LA.gj_len n A n
theorem gj_less {n : Nat} {A : Nat → Nat → G8} : (LA.gj n A n).2.1.length < n ↔ LA.det n A = 0 := by
  have h1 := LA.gj_full n A
  have h2 := gj_le n A
  constructor
  · intro h
    exact Decidable.byContradiction fun h3 => by have := h1.2 h3; omega
  · intro h
    have : ¬ (LA.gj n A n).2.1.length = n := fun e => h1.1 e h
    omega
theorem Solve_of {m c : Nat} (hm1 : 1 ≤ m) (hm : m ≤ 256) (hc1 : 1 ≤ c) (hc : c ≤ 512) {A B : Nat → Nat → G8} :
    matrix_Solve.f (mt m m A) (mt m c B) = if LA.det m A = 0 then some ([], 102) else some (mt m c (fun i j => (LA.gj m (beside8 m A B) m).1 i (m + j)), 0) := by
  have hw : (LA.gj m (beside8 m (toM (mt m m A)) (toM (mt m c B))) m) = (LA.gj m (beside8 m (toM (mt m m A)) (toM (mt m c B))) m) := rfl
  have hcong : ∀ i j, i < m → j < m + c → beside8 m (toM (mt m m A)) (toM (mt m c B)) i j = beside8 m A B i j := by
    intro i j hi hj
    unfold beside8
    by_cases h : j < m
    · rw [if_pos h, if_pos h, toM_mt hi h]
    · rw [if_neg h, if_neg h, toM_mt hi (by omega)]
  obtain ⟨g1, g2⟩ := gj_cols hcong m (by omega)
  have e1 : chk (mt m m A) = true ∧ chk (mt m c B) = true := ⟨chk_mt hm1 hm hm1 (by omega), chk_mt hm1 hm hc1 hc⟩
  have e2 : m = m ∧ m = m := ⟨rfl, rfl⟩
  have e3 : byt (mt m m A) = true ∧ byt (mt m c B) = true := ⟨byt_mt, byt_mt⟩
  unfold matrix_Solve.f
  simp only [if_pos e1, mt_len, wid_mt hm1, if_pos e2, if_pos e3]
  rw [g1, gj_beside]
  by_cases h : LA.det m A = 0
  · rw [if_pos (gj_less.2 h), if_pos h, if_pos ⟨trivial, trivial⟩]
  · rw [if_neg (fun h2 => h (gj_less.1 h2)), if_neg h]
    rw [mt_congr (fun i j hi hj => g2 i (m + j) hi (by omega)), if_pos ⟨trivial, trivial⟩]
end Go.Proofs.Ytkdoilmfchlpdaa.R
end
section
/- What the printed Identity of layer 10 computes. -/
namespace Go.Proofs.Ytkdoilmfchlpdaa.R
open Go.RowKit Go.Proofs.YtkdoilmfchlpdaaW.PrintWords Go.Proofs.YtkdoilmfchlpdaaW.PrintLast Go.Proofs.YtkdoilmfchlpdaaW.PrintMore Go.Proofs.Ytkdoilmfchlpdaa.A GP
set_option linter.unusedVariables false
set_option linter.unusedSimpArgs false

/-- The identity, made as far as row i. -/
def oneTo (i : Nat) : Nat → Nat → G8 := fun a b => if a < i then LA.one a b else 0
theorem Ident {n : Nat} (h1 : 1 ≤ n) (h2 : n ≤ 256) : Ev (fun k => matrix_Identity.f k (n : Int)) (mt n n LA.one, (0 : Int)) := by
  have go : ∀ d i : Nat, n - i ≤ d → i ≤ n → Ev (fun k => matrix_Identity.l0 k (mt n n (oneTo i)) (n : Int) (i : Int)) (mt n n LA.one, (0 : Int)) := by
    intro d
    induction d with
    | zero =>
      intro i h hi
      obtain rfl : i = n := by omega
      refine Ev.step (fun k => matrix_Identity.l0.eq_2 _ _ _ k) ?_
      simp only [if_neg (show ¬ ((i : Nat) : Int) < (i : Int) by omega)]
      rw [mt_congr (A := oneTo i) (B := LA.one) (fun a b ha _ => by unfold oneTo; rw [if_pos ha])]
      exact Ev.now _
    | succ d ih =>
      intro i h hi
      by_cases hlt : i < n
      · refine Ev.step (fun k => matrix_Identity.l0.eq_2 _ _ _ k) ?_
        have e := mt_put (r := n) (c := n) hlt i (oneTo i) 1
        have e1 : ((((1 : G8).v : Nat)) : Int) = 1 := rfl
        rw [e1] at e
        simp only [if_pos (show ((i : Nat) : Int) < (n : Int) by omega), if_pos (show (0 : Int) ≤ (i : Int) by omega), mt_len, mt_row hlt, rw8_len, Int.toNat_natCast, wr64 (n := i) (by omega)]
        rw [← mt_row hlt, e]
        rw [mt_congr (A := fun a b => if a = i ∧ b = i then (1 : G8) else oneTo i a b) (B := oneTo (i + 1)) (fun a b _ _ => by
          unfold oneTo LA.one
          by_cases ha : a = i
          · subst ha
            by_cases hb : b = a
            · subst hb; simp
            · rw [if_neg (fun h => hb h.2), if_neg (by omega), if_pos (by omega), if_neg (fun h => hb h.symm)]
          · rw [if_neg (fun h => ha h.1)]
            have : a < i ↔ a < i + 1 := by omega
            simp only [this])]
        exact ih (i + 1) (by omega) (by omega)
      · obtain rfl : i = n := by omega
        refine Ev.step (fun k => matrix_Identity.l0.eq_2 _ _ _ k) ?_
        simp only [if_neg (show ¬ ((i : Nat) : Int) < (i : Int) by omega)]
        rw [mt_congr (A := oneTo i) (B := LA.one) (fun a b ha _ => by unfold oneTo; rw [if_pos ha])]
        exact Ev.now _
  unfold matrix_Identity.f
  simp only [if_neg (show ¬ (n : Int) < 1 by omega), decide_eq_false (show ¬ (n : Int) > 256 by omega)]
  refine Ev.step (fun k => matrix_Identity.j0.eq_2 _ _ k) ?_
  simp only [Bool.false_eq_true, if_false]
  refine Ev.bind (Blank (r := n) (c := n) (by omega) (by omega)) ?_
  simp only [mat_len]
  have := go n 0 (by omega) (by omega)
  rw [mt_congr (A := oneTo 0) (B := fun _ _ => 0) (fun a b _ _ => by unfold oneTo; rw [if_neg (by omega)])] at this
  exact this
end Go.Proofs.Ytkdoilmfchlpdaa.R
end
section
/- What the printed Mul of layer 10 computes. -/
namespace Go.Proofs.Ytkdoilmfchlpdaa.R
open Go.RowKit Go.Proofs.YtkdoilmfchlpdaaW.PrintWords Go.Proofs.YtkdoilmfchlpdaaW.PrintLast Go.Proofs.YtkdoilmfchlpdaaW.PrintMore Go.Proofs.Ytkdoilmfchlpdaa.A GP
set_option linter.unusedVariables false
set_option linter.unusedSimpArgs false

/-- The product, made as far as row i, j summands, column t of the next. -/
def mulTo (q : Nat) (A B : Nat → Nat → G8) (i j t : Nat) : Nat → Nat → G8 := fun a b => if a < i then LA.mm q A B a b else if a = i then LA.sm (if b < t then j + 1 else j) (fun k => A i k * B k b) else 0
theorem mulTo_put {m c q : Nat} {A B : Nat → Nat → G8} {i j t : Nat} (hi : i < m) :
    mt m c (fun a b => if a = i ∧ b = t then mulTo q A B i j t i t + A i j * B j t else mulTo q A B i j t a b) = mt m c (mulTo q A B i j (t + 1)) := by
  apply mt_congr
  intro a b _ _
  unfold mulTo
  by_cases ha : a = i
  · subst ha
    by_cases hb : b = t
    · subst hb
      simp only [and_self, if_true, Nat.lt_irrefl, if_false, if_pos (Nat.lt_succ_self b)]
      rfl
    · rw [if_neg (fun h => hb h.2)]
      have : b < t ↔ b < t + 1 := by omega
      simp only [this]
  · rw [if_neg (fun h => ha h.1)]
    simp only [if_neg ha]
theorem Mul_mt {m q c : Nat} (hm1 : 1 ≤ m) (hm : m ≤ 256) (hq1 : 1 ≤ q) (hq : q ≤ 256) (hc1 : 1 ≤ c) (hc : c ≤ 512) (A B : Nat → Nat → G8) :
    Ev (fun k => matrix_Mul.f k (mt m q A) (mt q c B)) (mt m c (LA.mm q A B), (0 : Int)) := by
  have l2 : ∀ i j : Nat, i < m → j < q → (∀ x, x = (((A i j).v : Nat) : Int) → Ev (fun k => matrix_Mul.l1 k (mt q c B) (mt m c (mulTo q A B i (j + 1) 0)) (i : Int) (mt m q A) (m : Int) (i : Int) (rw8 q (A i)) (q : Int) (((j + 1 : Nat)) : Int)) (mt m c (LA.mm q A B), (0 : Int))) →
      ∀ d t : Nat, c - t ≤ d → t ≤ c → Ev (fun k => matrix_Mul.l2 k (mt q c B) (mt m c (mulTo q A B i j t)) (i : Int) (((A i j).v : Nat) : Int) (mt m q A) (m : Int) (i : Int) (rw8 q (A i)) (q : Int) (j : Int) (rw8 c (B j)) (c : Int) (t : Int)) (mt m c (LA.mm q A B), (0 : Int)) := by
    intro i j hi hj next
    have fin : ∀ t : Nat, ¬ t < c → t ≤ c → Ev (fun k => matrix_Mul.l2 k (mt q c B) (mt m c (mulTo q A B i j t)) (i : Int) (((A i j).v : Nat) : Int) (mt m q A) (m : Int) (i : Int) (rw8 q (A i)) (q : Int) (j : Int) (rw8 c (B j)) (c : Int) (t : Int)) (mt m c (LA.mm q A B), (0 : Int)) := by
      intro t h1 h2
      obtain rfl : t = c := by omega
      refine Ev.step (fun k => matrix_Mul.l2.eq_2 _ _ _ _ _ _ _ _ _ _ _ _ _ k) ?_
      simp only [if_neg (show ¬ ((t : Nat) : Int) < (t : Int) by omega), wr64 (n := j) (by omega)]
      have e : mt m t (mulTo q A B i j t) = mt m t (mulTo q A B i (j + 1) 0) := mt_congr (fun a b _ hb => by
        unfold mulTo
        simp only [if_pos hb, if_neg (Nat.not_lt_zero b)])
      rw [e]
      exact next _ rfl
    intro d
    induction d with
    | zero => intro t h ht; exact fin t (by omega) ht
    | succ d ih =>
      intro t h ht
      by_cases hlt : t < c
      · refine Ev.step (fun k => matrix_Mul.l2.eq_2 _ _ _ _ _ _ _ _ _ _ _ _ _ k) ?_
        have e := mt_put (r := m) (c := c) hi t (mulTo q A B i j t) (mulTo q A B i j t i t + A i j * B j t)
        rw [mulTo_put hi, mt_row hi] at e
        have ex : Go.bits .xor .u8 (((mulTo q A B i j t i t).v : Nat) : Int) ((m8 (A i j).v (B j t).v : Nat) : Int) = (((mulTo q A B i j t i t + A i j * B j t).v : Nat) : Int) := bits_xor8 (mulTo q A B i j t i t).2 (m8_lt _ _)
        simp only [if_pos (show ((t : Nat) : Int) < (c : Int) by omega), if_pos (show (0 : Int) ≤ (t : Int) by omega), if_pos (show (0 : Int) ≤ (i : Int) by omega), rw8_len, mt_len, if_pos (show ((i : Nat) : Int) < (m : Int) by omega), mt_row hi, rw8_get hlt, TMul8 (A i j).2 (B j t).2, Option.bind_some, Int.toNat_natCast, ex, e, wr64 (n := t) (by omega)]
        exact ih (t + 1) (by omega) (by omega)
      · exact fin t hlt ht
  have l1 : ∀ i : Nat, i < m → Ev (fun k => matrix_Mul.l0 k (mt q c B) (mt m c (mulTo q A B (i + 1) 0 0)) (mt m q A) (m : Int) (((i + 1 : Nat)) : Int)) (mt m c (LA.mm q A B), (0 : Int)) →
      ∀ d j : Nat, q - j ≤ d → j ≤ q → Ev (fun k => matrix_Mul.l1 k (mt q c B) (mt m c (mulTo q A B i j 0)) (i : Int) (mt m q A) (m : Int) (i : Int) (rw8 q (A i)) (q : Int) (j : Int)) (mt m c (LA.mm q A B), (0 : Int)) := by
    intro i hi next
    have fin : ∀ j : Nat, ¬ j < q → j ≤ q → Ev (fun k => matrix_Mul.l1 k (mt q c B) (mt m c (mulTo q A B i j 0)) (i : Int) (mt m q A) (m : Int) (i : Int) (rw8 q (A i)) (q : Int) (j : Int)) (mt m c (LA.mm q A B), (0 : Int)) := by
      intro j h1 h2
      obtain rfl : j = q := by omega
      refine Ev.step (fun k => matrix_Mul.l1.eq_2 _ _ _ _ _ _ _ _ _ k) ?_
      simp only [if_neg (show ¬ ((j : Nat) : Int) < (j : Int) by omega), wr64 (n := i) (by omega)]
      have e : mt m c (mulTo j A B i j 0) = mt m c (mulTo j A B (i + 1) 0 0) := mt_congr (fun a b _ _ => by
        unfold mulTo
        simp only [if_neg (Nat.not_lt_zero b)]
        by_cases ha : a = i
        · subst ha
          rw [if_neg (by omega), if_pos rfl, if_pos (by omega)]
          rfl
        · by_cases hb : a < i
          · rw [if_pos hb, if_pos (by omega)]
          · rw [if_neg hb, if_neg ha, if_neg (by omega)]
            by_cases h3 : a = i + 1
            · rw [if_pos h3]; rfl
            · rw [if_neg h3])
      rw [e]
      exact next
    intro d
    induction d with
    | zero => intro j h hj; exact fin j (by omega) hj
    | succ d ih =>
      intro j h hj
      by_cases hlt : j < q
      · refine Ev.step (fun k => matrix_Mul.l1.eq_2 _ _ _ _ _ _ _ _ _ k) ?_
        have nx := ih (j + 1) (by omega) (by omega)
        simp only [if_pos (show ((j : Nat) : Int) < (q : Int) by omega), if_pos (show (0 : Int) ≤ (j : Int) by omega), rw8_len, rw8_get hlt, mt_len, mt_row hlt, wr64 (n := j) (by omega)]
        by_cases h0 : (((A i j).v : Nat) : Int) = 0
        · simp only [if_pos h0]
          have hz : A i j = 0 := g8_eq0.2 (by omega)
          rw [mt_congr (A := mulTo q A B i j 0) (B := mulTo q A B i (j + 1) 0) (fun a b _ _ => by
            unfold mulTo
            simp only [if_neg (Nat.not_lt_zero b)]
            by_cases ha : a = i
            · subst ha
              simp only [Nat.lt_irrefl, if_false, if_true]
              show LA.sm j (fun k => A a k * B k b) = LA.sm j (fun k => A a k * B k b) + A a j * B j b
              rw [hz, LA.zero_mul, LA.Fld.add_zero]
            · simp only [if_neg ha])]
          exact nx
        · simp only [if_neg h0]
          exact l2 i j hi hlt (fun _ _ => nx) c 0 (by omega) (by omega)
      · exact fin j hlt hj
  have l0 : ∀ d i : Nat, m - i ≤ d → i ≤ m → Ev (fun k => matrix_Mul.l0 k (mt q c B) (mt m c (mulTo q A B i 0 0)) (mt m q A) (m : Int) (i : Int)) (mt m c (LA.mm q A B), (0 : Int)) := by
    have fin : ∀ i : Nat, ¬ i < m → i ≤ m → Ev (fun k => matrix_Mul.l0 k (mt q c B) (mt m c (mulTo q A B i 0 0)) (mt m q A) (m : Int) (i : Int)) (mt m c (LA.mm q A B), (0 : Int)) := by
      intro i h1 h2
      obtain rfl : i = m := by omega
      refine Ev.step (fun k => matrix_Mul.l0.eq_2 _ _ _ _ _ k) ?_
      simp only [if_neg (show ¬ ((i : Nat) : Int) < (i : Int) by omega)]
      rw [mt_congr (A := mulTo q A B i 0 0) (B := LA.mm q A B) (fun a b ha _ => by unfold mulTo; rw [if_pos ha])]
      exact Ev.now _
    intro d
    induction d with
    | zero => intro i h hi; exact fin i (by omega) hi
    | succ d ih =>
      intro i h hi
      by_cases hlt : i < m
      · refine Ev.step (fun k => matrix_Mul.l0.eq_2 _ _ _ _ _ k) ?_
        simp only [if_pos (show ((i : Nat) : Int) < (m : Int) by omega), if_pos (show (0 : Int) ≤ (i : Int) by omega), mt_len, mt_row hlt, rw8_len]
        exact l1 i hlt (ih (i + 1) (by omega) (by omega)) q 0 (by omega) (by omega)
      · exact fin i hlt hi
  have c1 := Check_any (mt m q A)
  have c2 := Check_any (mt q c B)
  rw [chk_mt hm1 hm hq1 (by omega), if_pos rfl] at c1
  rw [chk_mt hq1 hq hc1 hc, if_pos rfl] at c2
  have r0 : rd_L1 (mt m q A) 0 = rw8 q (A 0) := mt_row (i := 0) (by omega) q A
  have r1 : rd_L1 (mt q c B) 0 = rw8 c (B 0) := mt_row (i := 0) (by omega) c B
  unfold matrix_Mul.f
  refine Ev.bind c1 ?_
  simp only [if_true]
  refine Ev.bind c2 ?_
  refine Ev.step (fun k => matrix_Mul.j0.eq_2 _ _ _ k) ?_
  simp only [bne_self_eq_false, Bool.false_eq_true, if_false, mt_len, if_pos (show (0 : Int) < (m : Int) by omega), r0, r1, rw8_len, if_true, gf8_New.f, Option.bind_some, if_pos (show (0 : Int) < (q : Int) by omega)]
  refine Ev.bind (Blank (r := m) (c := c) (by omega) (by omega)) ?_
  have := l0 m 0 (by omega) (by omega)
  rw [mt_congr (A := mulTo q A B 0 0 0) (B := fun _ _ => 0) (fun a b _ _ => by
    unfold mulTo
    simp only [if_neg (Nat.not_lt_zero a), if_neg (Nat.not_lt_zero b)]
    by_cases ha : a = 0
    · rw [if_pos ha]; rfl
    · rw [if_neg ha])] at this
  exact this
end Go.Proofs.Ytkdoilmfchlpdaa.R
end
section
/- The printed Invert. -/
namespace Go.Proofs.Ytkdoilmfchlpdaa.R
open Go.RowKit Go.Proofs.YtkdoilmfchlpdaaW.PrintWords Go.Proofs.YtkdoilmfchlpdaaW.PrintLast Go.Proofs.YtkdoilmfchlpdaaW.PrintMore Go.Proofs.Ytkdoilmfchlpdaa.A GP
set_option linter.unusedVariables false
set_option linter.unusedSimpArgs false

theorem Invert_of {n : Nat} (h1 : 1 ≤ n) (h2 : n ≤ 256) {A : Nat → Nat → G8} : Ev (fun k => B.matrix_Invert.f k (mt n n A)) (if LA.det n A = 0 then (([] : List (List Int)), (102 : Int)) else (mt n n (fun i j => (LA.gj n (beside8 n A LA.one) n).1 i (n + j)), 0)) := by
  have c1 := Check_any (mt n n A)
  rw [chk_mt h1 h2 h1 (by omega), if_pos rfl] at c1
  have r0 : Go.Proofs.Ytkdoilmfchlpdaa.A.rd_L1 (mt n n A) 0 = rw8 n (A 0) := mt_row (i := 0) (by omega) n A
  unfold B.matrix_Invert.f
  refine Ev.bind c1 ?_
  have q : @B.rd_L1 = @Go.Proofs.Ytkdoilmfchlpdaa.A.rd_L1 := rfl
  simp only [q, if_true, mt_len, if_pos (show (0 : Int) < (n : Int) by omega), r0, rw8_len]
  refine Ev.bind (Ident h1 h2) ?_
  simp only [Solve_of h1 h2 h1 (show n ≤ 512 by omega)]
  by_cases h : LA.det n A = 0
  · simp only [if_pos h, Option.bind_some]; exact Ev.now _
  · simp only [if_neg h, Option.bind_some]; exact Ev.now _
end Go.Proofs.Ytkdoilmfchlpdaa.R
end
section
/- What the functions of layer 11 compute. -/
namespace Go.Proofs.Ytkdoilmfchlpdaa.R
open Go.RowKit Go.Proofs.YtkdoilmfchlpdaaW.PrintWords Go.Proofs.YtkdoilmfchlpdaaW.PrintLast Go.Proofs.YtkdoilmfchlpdaaW.PrintMore Go.Proofs.Ytkdoilmfchlpdaa.A Go.Proofs.Ytkdoilmfchlpdaa.B Go.Proofs.Ytkdoilmfchlpdaa.RI GP
set_option linter.unusedVariables false
set_option linter.unusedSimpArgs false
theorem q_rdB : @B.rd_L1 = @Go.Proofs.Ytkdoilmfchlpdaa.A.rd_L1 := rfl
theorem pt_inj : ∀ i j, i < 256 → j < 256 → t8 i = t8 j → i = j := fun i j hi hj e => by
  have h1 : (t8 i).1 = (t8 j).1 := by rw [e]
  rw [t8_val hi, t8_val hj] at h1
  exact h1
theorem px_vd (i : Nat) : ∀ j, (LA.px (t8 i) j).1 = vd i j := by
  intro j
  induction j with
  | zero => rw [vd_zero]; rfl
  | succ j ih => rw [vd_succ, ← ih]; rfl
/-- Systematic of a matrix with at least as many rows as columns. -/
theorem Syst_of {r n : Nat} (h1 : 1 ≤ n) (h2 : n ≤ r) (h3 : r ≤ 256) (A : Nat → Nat → G8) : Ev (fun k => gener_systematic.f k (mt r n A)) (if LA.det n A = 0 then (([] : List (List Int)), (102 : Int)) else (mt r n (LA.mm n A (fun i j => (LA.gj n (beside8 n A LA.one) n).1 i (n + j))), 0)) := by
  have c1 := Check_any (mt r n A)
  rw [chk_mt (by omega) h3 h1 (by omega), if_pos rfl] at c1
  have r0 : Go.Proofs.Ytkdoilmfchlpdaa.A.rd_L1 (mt r n A) 0 = rw8 n (A 0) := mt_row (i := 0) (by omega) n A
  have tk : (mt r n A).take n = mt n n A := by
    unfold mt mat
    rw [← List.map_take, List.take_range, Nat.min_eq_left h2]
  unfold gener_systematic.f
  refine Ev.bind c1 ?_
  simp only [q_rdB, if_true, mt_len, if_pos (show (0 : Int) < (r : Int) by omega), r0, rw8_len, if_neg (show ¬ (r : Int) < (n : Int) by omega), if_pos (show (0 : Int) ≤ (n : Int) by omega), if_pos (show (n : Int) ≤ (r : Int) by omega), Int.toNat_natCast, tk]
  refine Ev.bind (Invert_of h1 (by omega)) ?_
  by_cases h : LA.det n A = 0
  · simp only [if_pos h, if_neg (show ¬ (102 : Int) = 0 by decide)]; exact Ev.now _
  · simp only [if_neg h, if_true]
    exact Ev.bind (Mul_mt (by omega) h3 h1 (by omega) h1 (by omega) A _) (Ev.now _)
/-- The inverse that Invert makes. -/
def inv8 (n : Nat) (A : Nat → Nat → G8) : Nat → Nat → G8 := fun i j => (LA.gj n (beside8 n A LA.one) n).1 i (n + j)
theorem inv8_is {n : Nat} {A : Nat → Nat → G8} (h : LA.det n A ≠ 0) : (∀ i j, i < n → j < n → LA.mm n (inv8 n A) A i j = LA.one i j) ∧ ∀ i j, i < n → j < n → LA.mm n A (inv8 n A) i j = LA.one i j := by
  obtain ⟨P, h1, h2⟩ := solve_full n (B := LA.one) h
  have e : ∀ i j, i < n → j < n → inv8 n A i j = P i j := fun i j hi hj => by
    unfold inv8; rw [h2 i j hi hj, LA.mm_one P i hj]
  have l : ∀ i j, i < n → j < n → LA.mm n (inv8 n A) A i j = LA.one i j := fun i j hi hj => by
    rw [← h1 i j hi hj]
    exact LA.sm_congr (fun k hk => by rw [e i k hi hk])
  exact ⟨l, LA.inv_swap l⟩
/-- The generator's element. -/
def gmat (fam : Bool) (k s i : Nat) : G8 := LA.gm fam t8 k s i
theorem det_vd {k : Nat} (hk : k ≤ 256) : LA.det k (fun s c => LA.px (t8 s) c) ≠ 0 := LA.vdm_ne (fun i j hi hj => pt_inj i j (by omega) (by omega))
def famI (fam : Bool) : Int := if fam then 1 else 0
theorem Parity_of (fam : Bool) {k m : Nat} (hk : 1 ≤ k) (hm : 1 ≤ m) (h : k + m ≤ 256) : Ev (fun r => gener_Parity.f r (famI fam) (k : Int) (m : Int)) (mt m k (fun j i => gmat fam k (k + j) i), (0 : Int)) := by
  have j1 : Ev (fun r => gener_Parity.j1 r (famI fam) (k : Int) (m : Int) false) (mt m k (fun j i => gmat fam k (k + j) i), (0 : Int)) := by
    refine Ev.step (fun r => gener_Parity.j1.eq_2 _ _ _ _ r) ?_
    simp only [Bool.false_eq_true, if_false]
    cases fam with
    | true =>
      simp only [show famI true = 1 from rfl, if_true]
      refine Ev.bind (Cauchy_mat hm hk (by omega)) ?_
      have e : mat m k (cau k) = mt m k (fun j i => gmat true k (k + j) i) := mat_congr (fun j i hj hi => by
        show _ = (LA.gm true t8 k (k + j) i).1
        unfold LA.gm
        rw [if_neg (by omega), if_pos rfl]
        rfl)
      rw [e]
      exact Ev.now _
    | false =>
      simp only [show famI false = 0 from rfl, if_neg (show ¬ (0 : Int) = 1 by decide), show wrap64 ((k : Int) + (m : Int)) = ((k + m : Nat) : Int) by rw [wrap64_id (by omega) (by omega)]; omega]
      refine Ev.bind (Vandermonde (by omega) h hk (by omega)) ?_
      have e : mat (k + m) k vd = mt (k + m) k (fun s c => LA.px (t8 s) c) := mat_congr (fun s c _ _ => (px_vd s c).symm)
      simp only [e, if_true]
      have hd := det_vd (show k ≤ 256 by omega)
      have hs := Syst_of hk (show k ≤ k + m by omega) h (fun s c => LA.px (t8 s) c)
      rw [if_neg hd] at hs
      refine Ev.bind hs ?_
      have hdrop : (mt (k + m) k (LA.mm k (fun s c => LA.px (t8 s) c) (inv8 k (fun s c => LA.px (t8 s) c)))).drop k = mt m k (fun j i => gmat false k (k + j) i) := by
        unfold mt mat
        apply List.ext_getElem?
        intro j
        rw [List.getElem?_drop, List.getElem?_map, List.getElem?_map]
        by_cases hj : j < m
        · rw [List.getElem?_range (by omega), List.getElem?_range hj]
          show some _ = some _
          congr 1
          refine rowOf_congr (fun i hi => ?_)
          have e1 := LA.vdm_syst (fun a b ha hb => pt_inj a b (by omega) (by omega)) (inv8_is hd).2 (k + j) hi
          have e2 : gmat false k (k + j) i = LA.lag k t8 i (t8 (k + j)) := by
            unfold gmat LA.gm
            rw [if_neg (by omega)]
            rfl
          exact congrArg G8.v (e1.trans e2.symm)
        · rw [List.getElem?_eq_none (by simp; omega), List.getElem?_eq_none (by simp; omega)]
          rfl
      simp only [if_true, if_pos (show (0 : Int) ≤ (k : Int) by omega), mt_len, if_pos (show (k : Int) ≤ ((k + m : Nat) : Int) by omega), Int.toNat_natCast]
      rw [show (fun i j => (LA.gj k (beside8 k (fun s c => LA.px (t8 s) c) LA.one) k).1 i (k + j)) = inv8 k (fun s c => LA.px (t8 s) c) from rfl, hdrop]
      exact Ev.now _
  have j0 : Ev (fun r => gener_Parity.j0 r (famI fam) (k : Int) (m : Int) false) (mt m k (fun j i => gmat fam k (k + j) i), (0 : Int)) := by
    refine Ev.step (fun r => gener_Parity.j0.eq_2 _ _ _ _ r) ?_
    simp only [Bool.false_eq_true, if_false, if_neg (show ¬ (k : Int) < 1 by omega), if_neg (show ¬ (m : Int) < 1 by omega), if_neg (show ¬ (k : Int) > 256 by omega), if_neg (show ¬ (m : Int) > 256 by omega), wrap64_id (n := (k : Int) + (m : Int)) (by omega) (by omega), show decide ((k : Int) + (m : Int) > 256) = false from decide_eq_false (by omega)]
    exact j1
  unfold gener_Parity.f
  cases fam with
  | true => simp only [show famI true = 1 from rfl, if_neg (show ¬ (1 : Int) = 0 by decide), show ((1 : Int) != 1) = false from rfl]; exact j0
  | false => simp only [show famI false = 0 from rfl, if_true]; exact j0
theorem gmat_top (fam : Bool) {k s : Nat} (hs : s < k) (i : Nat) : gmat fam k s i = LA.one s i := by unfold gmat LA.gm; rw [if_pos hs]
theorem mt_append {a b c : Nat} (A B : Nat → Nat → G8) : mt a c A ++ mt b c B = mt (a + b) c (fun i j => if i < a then A i j else B (i - a) j) := by
  unfold mt mat
  apply List.ext_getElem?
  intro i
  by_cases h : i < a
  · rw [List.getElem?_append_left (by simp; omega), List.getElem?_map, List.getElem?_map, List.getElem?_range h, List.getElem?_range (by omega)]
    show some _ = some _
    congr 1
    exact rowOf_congr (fun j _ => by show (A i j).1 = (if i < a then A i j else B (i - a) j).1; rw [if_pos h])
  · rw [List.getElem?_append_right (by simp; omega), List.getElem?_map, List.getElem?_map, List.length_map, List.length_range]
    by_cases h2 : i < a + b
    · rw [List.getElem?_range (by omega), List.getElem?_range h2]
      show some _ = some _
      congr 1
      exact rowOf_congr (fun j _ => by show (B (i - a) j).1 = (if i < a then A i j else B (i - a) j).1; rw [if_neg h])
    · rw [List.getElem?_eq_none (by simp; omega), List.getElem?_eq_none (by simp; omega)]
      rfl
theorem Generator_of (fam : Bool) {k m : Nat} (hk : 1 ≤ k) (hm : 1 ≤ m) (h : k + m ≤ 256) : Ev (fun r => gener_Generator.f r (famI fam) (k : Int) (m : Int)) (mt (k + m) k (gmat fam k), (0 : Int)) := by
  unfold gener_Generator.f
  refine Ev.bind (Parity_of fam hk hm h) ?_
  simp only [if_true]
  refine Ev.bind (Ident hk (by omega)) ?_
  have e : mt k k LA.one ++ mt m k (fun j i => gmat fam k (k + j) i) = mt (k + m) k (gmat fam k) := by
    rw [mt_append]
    exact mt_congr (fun i j _ _ => by
      by_cases hi : i < k
      · rw [if_pos hi, gmat_top fam hi]
      · rw [if_neg hi, show k + (i - k) = i by omega])
  simp only [if_true, mt_len, if_pos (show k + m < 5864062014805 by omega), e]
  exact Ev.now _
/-- The decoder's element. -/
def dmat (fam : Bool) (k : Nat) (us : Nat → Nat) (s i : Nat) : G8 := LA.dm fam t8 k us s i
/-- A list of numbers, as natural ones. -/
def nn (l : List Int) (i : Nat) : Nat := (l.getD i 0).toNat
theorem nn_rise {n : Nat} {l : List Int} (h : riB (n : Int) l = true) : (∀ i, i < l.length → nn l i < n) ∧ ∀ i j, i < l.length → j < l.length → nn l i = nn l j → i = j := by
  have hl := riB_iff.1 h
  have lt : ∀ i j, i < j → j < l.length → l.getD i 0 < l.getD j 0 := fun i j hij hj => by
    have := riB_mono h (j - i - 1) i (by omega)
    rwa [show i + (j - i - 1) + 1 = j by omega] at this
  refine ⟨fun i hi => by have := hl i hi; unfold nn; omega, fun i j hi hj e => ?_⟩
  have h1 := hl i hi
  have h2 := hl j hj
  unfold nn at e
  rcases Nat.lt_trichotomy i j with c | c | c
  · have := lt i j c hj; omega
  · exact c
  · have := lt j i c hi; omega
theorem Pick_of {r n : Nat} (hr1 : 1 ≤ r) (hr : r ≤ 256) (hn1 : 1 ≤ n) (hn : n ≤ 512) (A : Nat → Nat → G8) {l : List Int} (h1 : 1 ≤ l.length) (h2 : l.length ≤ 256) (hl : ∀ i, i < l.length → 0 ≤ l.getD i 0 ∧ l.getD i 0 < (r : Int)) :
    matrix_Pick.f (mt r n A) l = some (mt l.length n (fun i j => A (nn l i) j), 0) := by
  unfold matrix_Pick.f
  rw [if_pos (chk_mt hr1 hr hn1 hn), if_pos ⟨h1, h2, List.all_eq_true.2 (fun x hx => by
    obtain ⟨i, hi, rfl⟩ := List.getElem_of_mem hx
    have := hl i hi
    rw [List.getD_eq_getElem?_getD, List.getElem?_eq_getElem hi] at this
    have h0 : 0 ≤ l[i] ∧ l[i] < (r : Int) := this
    rw [mt_len]
    simp [h0.1, h0.2])⟩, if_pos byt_mt, wid_mt hr1]
  congr 2
  exact mt_congr (fun i j hi hj => toM_mt (by have := hl i hi; omega) hj)
theorem Decoder_of (fam : Bool) {k m : Nat} (hk : 1 ≤ k) (hm : 1 ≤ m) (h : k + m ≤ 256) {pr wa : List Int} (hp : riB ((k + m : Nat) : Int) pr = true) (hw : riB ((k + m : Nat) : Int) wa = true) (hpl : k ≤ pr.length) :
    Ev (fun r => gener_Decoder.f r (famI fam) (k : Int) (m : Int) pr wa) (mt wa.length k (fun a i => dmat fam k (nn pr) (nn wa a) i), (0 : Int)) := by
  have hlen : ∀ {l : List Int}, riB ((k + m : Nat) : Int) l = true → l.length ≤ k + m := fun {l} hl => by
    rcases Nat.eq_zero_or_pos l.length with z | z
    · omega
    · have := riB_room hl (l.length - 1) 0 (by omega)
      have h0 := ((riB_iff.1 hl) 0 z).1
      omega
  have hpl2 := hlen hp
  have hwl2 := hlen hw
  have hpi := riB_iff.1 hp
  have hwi := riB_iff.1 hw
  obtain ⟨pn1, pn2⟩ := nn_rise hp
  obtain ⟨wn1, -⟩ := nn_rise hw
  unfold gener_Decoder.f
  refine Ev.bind (Generator_of fam hk hm h) ?_
  simp only [if_true, show wrap64 ((k : Int) + (m : Int)) = ((k + m : Nat) : Int) by rw [wrap64_id (by omega) (by omega)]; omega]
  have n1 := Numbers ((k + m : Nat) : Int) (l := pr) (by omega)
  have n2 := Numbers ((k + m : Nat) : Int) (l := wa) (by omega)
  rw [hp] at n1
  rw [hw] at n2
  refine Ev.bind n1 ?_
  simp only [if_true]
  refine Ev.bind n2 ?_
  refine Ev.step (fun r => gener_Decoder.j0.eq_2 _ _ _ _ _ r) ?_
  simp only [Bool.not_true, Bool.false_eq_true, if_false, if_neg (show ¬ (pr.length : Int) < (k : Int) by omega)]
  by_cases hw0 : (wa.length : Int) = 0
  · simp only [if_pos hw0]
    have : wa.length = 0 := by omega
    rw [this]
    exact Ev.now _
  have htk : (pr.take k).length = k := by rw [List.length_take]; omega
  have tg : ∀ i, i < k → (pr.take k).getD i 0 = pr.getD i 0 := fun i hi => by
    rw [List.getD_eq_getElem?_getD, List.getD_eq_getElem?_getD, List.getElem?_take, if_pos hi]
  have P1 := Pick_of (show 1 ≤ k + m by omega) h hk (by omega) (gmat fam k) (l := pr.take k) (by omega) (by omega) (fun i hi => by rw [htk] at hi; rw [tg i hi]; exact ⟨(hpi i (by omega)).1, (hpi i (by omega)).2.1⟩)
  rw [htk] at P1
  have e1 : mt k k (fun i j => gmat fam k (nn (pr.take k) i) j) = mt k k (fun i j => gmat fam k (nn pr i) j) := mt_congr (fun i j hi _ => by unfold nn; rw [tg i hi])
  rw [e1] at P1
  have P2 := Pick_of (show 1 ≤ k + m by omega) h hk (by omega) (gmat fam k) (l := wa) (by omega) (by omega) (fun i hi => ⟨(hwi i hi).1, (hwi i hi).2.1⟩)
  have hu : ∀ i, i < k → nn pr i < k + m := fun i hi => pn1 i (by omega)
  have hi' : ∀ i j, i < k → j < k → nn pr i = nn pr j → i = j := fun i j a b => pn2 i j (by omega) (by omega)
  have hpt : ∀ i j, i < k + m → j < k + m → t8 i = t8 j → i = j := fun i j a b => pt_inj i j (by omega) (by omega)
  have hd : LA.det k (fun i j => gmat fam k (nn pr i) j) ≠ 0 := LA.gm_det hpt (by omega) fam hu hi'
  have I1 := Invert_of hk (show k ≤ 256 by omega) (A := fun i j => gmat fam k (nn pr i) j)
  rw [if_neg hd] at I1
  simp only [if_neg hw0, if_pos (show (0 : Int) ≤ (k : Int) by omega), if_pos (show (k : Int) ≤ (pr.length : Int) by omega), Int.toNat_natCast, P1, Option.bind_some, if_true]
  refine Ev.bind I1 ?_
  simp only [if_true, P2, Option.bind_some]
  refine Ev.bind (Mul_mt (show 1 ≤ wa.length by omega) (by omega) hk (by omega) hk (by omega) (fun i j => gmat fam k (nn wa i) j) (inv8 k (fun i j => gmat fam k (nn pr i) j))) ?_
  have e2 : mt wa.length k (LA.mm k (fun i j => gmat fam k (nn wa i) j) (inv8 k (fun i j => gmat fam k (nn pr i) j))) = mt wa.length k (fun a i => dmat fam k (nn pr) (nn wa a) i) := mt_congr (fun a i ha hi => by
    refine LA.dm_only hpt (by omega) fam hu hi' (wn1 a ha) (x := fun i => LA.mm k (fun i j => gmat fam k (nn wa i) j) (inv8 k (fun i j => gmat fam k (nn pr i) j)) a i) (fun c hc => ?_) i hi
    have e3 : LA.sm k (fun i => LA.mm k (fun i j => gmat fam k (nn wa i) j) (inv8 k (fun i j => gmat fam k (nn pr i) j)) a i * gmat fam k (nn pr i) c) = LA.mm k (LA.mm k (fun i j => gmat fam k (nn wa i) j) (inv8 k (fun i j => gmat fam k (nn pr i) j))) (fun i j => gmat fam k (nn pr i) j) a c := rfl
    have e4 := congrFun (congrFun (LA.mm_assoc k k (fun i j => gmat fam k (nn wa i) j) (inv8 k (fun i j => gmat fam k (nn pr i) j)) (fun i j => gmat fam k (nn pr i) j)) a) c
    refine e3.trans (e4.trans ?_)
    show LA.sm k (fun l => gmat fam k (nn wa a) l * LA.mm k (inv8 k (fun i j => gmat fam k (nn pr i) j)) (fun i j => gmat fam k (nn pr i) j) l c) = gmat fam k (nn wa a) c
    rw [LA.sm_congr (fun l hl => by rw [(inv8_is hd).1 l c hl hc])]
    exact LA.mm_one (fun i j => gmat fam k (nn wa i) j) a hc)
  rw [e2]
  exact Ev.now _
end Go.Proofs.Ytkdoilmfchlpdaa.R
end
section
/- What the theorems' own helpers of layer 11 compute: equal, alike, same, into, awake. -/
namespace Go.Proofs.Ytkdoilmfchlpdaa.R
open Go.RowKit Go.Proofs.YtkdoilmfchlpdaaW.PrintWords Go.Proofs.YtkdoilmfchlpdaaW.PrintLast Go.Proofs.YtkdoilmfchlpdaaW.PrintMore Go.Proofs.Ytkdoilmfchlpdaa.A Go.Proofs.Ytkdoilmfchlpdaa.B Go.Proofs.Ytkdoilmfchlpdaa.RI GP
set_option linter.unusedVariables false
set_option linter.unusedSimpArgs false
theorem Alike_self {a : List Int} (hl : a.length < 2 ^ 62) : Ev (fun k => culletlaw11_alike.f k a a) true := by
  unfold culletlaw11_alike.f
  simp only [if_true]
  refine ev_up (L := fun k i => culletlaw11_alike.l0 k a a ((i : Nat) : Int)) (n := a.length) ?_ ?_ 0 (Nat.zero_le _)
  · refine Ev.step (fun k => culletlaw11_alike.l0.eq_2 _ _ _ k) ?_
    simp only [if_neg (show ¬ ((a.length : Nat) : Int) < (a.length : Int) by omega)]
    exact Ev.now _
  · intro i hi nx
    refine Ev.step (fun k => culletlaw11_alike.l0.eq_2 _ _ _ k) ?_
    simp only [if_pos (show ((i : Nat) : Int) < (a.length : Int) by omega), if_pos (show (0 : Int) ≤ (i : Int) by omega), if_true, wr_up (n := i) (by omega)]
    exact nx
theorem Same_self11 {a : List Int} (hl : a.length < 2 ^ 62) : Ev (fun k => culletlaw11_same.f k a a) true := by
  unfold culletlaw11_same.f
  simp only [if_true]
  refine ev_up (L := fun k i => culletlaw11_same.l0 k a a ((i : Nat) : Int)) (n := a.length) ?_ ?_ 0 (Nat.zero_le _)
  · refine Ev.step (fun k => culletlaw11_same.l0.eq_2 _ _ _ k) ?_
    simp only [if_neg (show ¬ ((a.length : Nat) : Int) < (a.length : Int) by omega)]
    exact Ev.now _
  · intro i hi nx
    refine Ev.step (fun k => culletlaw11_same.l0.eq_2 _ _ _ k) ?_
    simp only [if_pos (show ((i : Nat) : Int) < (a.length : Int) by omega), if_pos (show (0 : Int) ≤ (i : Int) by omega), if_true, wr_up (n := i) (by omega)]
    exact nx
theorem Equal_self {l : List (List Int)} (h1 : l.length < 2 ^ 62) (h2 : ∀ x, x ∈ l → x.length < 2 ^ 62) : Ev (fun k => culletlaw11_equal.f k l l) true := by
  have h3 : ∀ i, i < l.length → (l.getD i []).length < 2 ^ 62 := fun i hi => by
    rw [List.getD_eq_getElem?_getD, List.getElem?_eq_getElem hi]
    exact h2 _ (List.getElem_mem hi)
  unfold culletlaw11_equal.f
  simp only [if_true]
  refine ev_up (L := fun k i => culletlaw11_equal.l0 k l l ((i : Nat) : Int)) (n := l.length) ?_ ?_ 0 (Nat.zero_le _)
  · refine Ev.step (fun k => culletlaw11_equal.l0.eq_2 _ _ _ k) ?_
    simp only [if_neg (show ¬ ((l.length : Nat) : Int) < (l.length : Int) by omega)]
    exact Ev.now _
  · intro i hi nx
    refine Ev.step (fun k => culletlaw11_equal.l0.eq_2 _ _ _ k) ?_
    have hn := h3 i hi
    simp only [q_rdB, if_pos (show ((i : Nat) : Int) < (l.length : Int) by omega), if_pos (show (0 : Int) ≤ (i : Int) by omega), if_true]
    refine ev_up (L := fun k j => culletlaw11_equal.l1 k l l ((i : Nat) : Int) ((j : Nat) : Int)) (n := (l.getD i []).length) ?_ ?_ 0 (Nat.zero_le _)
    · refine Ev.step (fun k => culletlaw11_equal.l1.eq_2 _ _ _ _ k) ?_
      simp only [q_rdB, if_pos (show ((i : Nat) : Int) < (l.length : Int) by omega), if_pos (show (0 : Int) ≤ (i : Int) by omega), rdl, if_neg (show ¬ (((l.getD i []).length : Nat) : Int) < ((l.getD i []).length : Int) by omega), wr_up (n := i) (by omega)]
      exact nx
    · intro j hj nx2
      refine Ev.step (fun k => culletlaw11_equal.l1.eq_2 _ _ _ _ k) ?_
      simp only [q_rdB, if_pos (show ((i : Nat) : Int) < (l.length : Int) by omega), if_pos (show (0 : Int) ≤ (i : Int) by omega), rdl, if_pos (show ((j : Nat) : Int) < ((l.getD i []).length : Int) by omega), if_pos (show (0 : Int) ≤ (j : Int) by omega), if_true, wr_up (n := j) (by omega)]
      exact nx2
theorem t8_add (a b c : Nat) (h : (a % 256) ^^^ (b % 256) = c % 256) : t8 a + t8 b = t8 c := G8.ext h
theorem t8_mul {a b c : Nat} (ha : a < 256) (hb : b < 256) (hc : c < 256) (h : mulf 285 a b = c) : t8 a * t8 b = t8 c := G8.ext (by
  show fm 285 (a % 256) (b % 256) = c % 256
  rw [Nat.mod_eq_of_lt ha, Nat.mod_eq_of_lt hb, Nat.mod_eq_of_lt hc, ← mulf_eq (by decide) (by omega) (by omega)]
  exact h)
theorem t8_one : t8 1 = 1 := rfl
theorem iv3 : LA.Fld.iv (t8 3) = t8 244 := (LA.iv_unique (a := t8 3) (b := t8 244) (by rw [t8_mul (c := 1) (by decide) (by decide) (by decide) (by decide +kernel)]; rfl)).symm
theorem lag0 (u : Nat → G8) (x : G8) : LA.lag 2 u 0 x = (x + u 1) * LA.Fld.iv (u 0 + u 1) := by
  show (1 * 1 * (x + u 1)) * LA.Fld.iv (1 * 1 * (u 0 + u 1)) = _
  rw [LA.one_mul, LA.one_mul, LA.one_mul]
theorem lag1 (u : Nat → G8) (x : G8) : LA.lag 2 u 1 x = (x + u 0) * LA.Fld.iv (u 1 + u 0) := by
  show (1 * (x + u 0) * 1) * LA.Fld.iv (1 * (u 1 + u 0) * 1) = _
  rw [LA.one_mul, LA.one_mul, LA.Fld.mul_one, LA.Fld.mul_one]
theorem awake1 : mt 1 2 (fun j i => gmat false 2 (2 + j) i) = [[3, 2]] := by
  have e0 : gmat false 2 (2 + 0) 0 = t8 3 := by
    show LA.lag 2 t8 0 (t8 2) = t8 3
    rw [lag0, t8_add 2 1 3 (by decide), t8_add 0 1 1 (by decide), t8_one, LA.iv_one, LA.Fld.mul_one]
  have e1 : gmat false 2 (2 + 0) 1 = t8 2 := by
    show LA.lag 2 t8 1 (t8 2) = t8 2
    rw [lag1, t8_add 2 0 2 (by decide), t8_add 1 0 1 (by decide), t8_one, LA.iv_one, LA.Fld.mul_one]
  show [[(((gmat false 2 (2 + 0) 0).1 : Nat) : Int), (((gmat false 2 (2 + 0) 1).1 : Nat) : Int)]] = _
  rw [e0, e1]; rfl
theorem awake2 : mt 1 2 (fun a i => dmat false 2 (nn [1, 2]) (nn [0] a) i) = [[245, 244]] := by
  have e0 : dmat false 2 (nn [1, 2]) (nn [0] 0) 0 = t8 245 := by
    show LA.lag 2 (fun i => t8 (nn [1, 2] i)) 0 (t8 0) * 1 * LA.Fld.iv 1 = t8 245
    rw [LA.iv_one, LA.Fld.mul_one, LA.Fld.mul_one, lag0]
    show (t8 0 + t8 2) * LA.Fld.iv (t8 1 + t8 2) = _
    rw [t8_add 0 2 2 (by decide), t8_add 1 2 3 (by decide), iv3, t8_mul (c := 245) (by decide) (by decide) (by decide) (by decide +kernel)]
  have e1 : dmat false 2 (nn [1, 2]) (nn [0] 0) 1 = t8 244 := by
    show LA.lag 2 (fun i => t8 (nn [1, 2] i)) 1 (t8 0) * 1 * LA.Fld.iv 1 = t8 244
    rw [LA.iv_one, LA.Fld.mul_one, LA.Fld.mul_one, lag1]
    show (t8 0 + t8 1) * LA.Fld.iv (t8 2 + t8 1) = _
    rw [t8_add 0 1 1 (by decide), t8_add 2 1 3 (by decide), iv3, t8_one, LA.one_mul]
  show [[(((dmat false 2 (nn [1, 2]) (nn [0] 0) 0).1 : Nat) : Int), (((dmat false 2 (nn [1, 2]) (nn [0] 0) 1).1 : Nat) : Int)]] = _
  rw [e0, e1]; rfl
theorem awake3 : gener_Words.f 3 1 0 = some ([1, 1, 1], 0) := by
  have hu : lgw 1 = 0 := by decide +kernel
  have hw : ∀ i, i < 3 → wfac 0 0 i = 1 := fun i hi => by
    unfold wfac
    rw [show (2 ^ 0 + i) / 2 ^ 0 = 1 + i by simp, Nat.zero_xor, show 2 ^ 0 + i = 1 + i by simp, m16_comm]
    exact m16_inv (wel_lt _) (wel_ne0 (by omega) (by omega))
  unfold gener_Words.f
  rw [if_pos (by decide), hu, if_pos (by decide), if_pos (by decide)]
  show some ([((wfac 0 0 0 : Nat) : Int), ((wfac 0 0 1 : Nat) : Int), ((wfac 0 0 2 : Nat) : Int)], (0 : Int)) = _
  rw [hw 0 (by omega), hw 1 (by omega), hw 2 (by omega)]; rfl
theorem awake4 : gener_Lost.f 4 [1, 2] = some ([0, 3], 0) := by decide +kernel
end Go.Proofs.Ytkdoilmfchlpdaa.R
end
section
/- The numbers that are kept: rising lists by a mark; what culletlaw11.chosen answers. -/
namespace Go.Proofs.Ytkdoilmfchlpdaa.R
open Go.RowKit Go.Proofs.YtkdoilmfchlpdaaW.PrintWords Go.Proofs.YtkdoilmfchlpdaaW.PrintLast Go.Proofs.YtkdoilmfchlpdaaW.PrintMore Go.Proofs.Ytkdoilmfchlpdaa.A Go.Proofs.Ytkdoilmfchlpdaa.B Go.Proofs.Ytkdoilmfchlpdaa.RI GP
set_option linter.unusedVariables false
set_option linter.unusedSimpArgs false
/-- The numbers below x with the mark. -/
def sel (p : Nat → Bool) : Nat → List Int
  | 0 => []
  | x + 1 => if p x then sel p x ++ [(x : Int)] else sel p x
end Go.Proofs.Ytkdoilmfchlpdaa.R
end
section
/- Decoder's factors depend on the first k present shards alone; one too few; at a present shard they are the identity's row. -/
namespace Go.Proofs.Ytkdoilmfchlpdaa.R
open Go.RowKit Go.Proofs.YtkdoilmfchlpdaaW.PrintWords Go.Proofs.YtkdoilmfchlpdaaW.PrintLast Go.Proofs.YtkdoilmfchlpdaaW.PrintMore Go.Proofs.Ytkdoilmfchlpdaa.A Go.Proofs.Ytkdoilmfchlpdaa.B Go.Proofs.Ytkdoilmfchlpdaa.RI GP
set_option linter.unusedVariables false
set_option linter.unusedSimpArgs false
/-- All numbers below n. -/
def rg (n : Nat) : List Int := (List.range n).map (fun x => ((x : Nat) : Int))
end Go.Proofs.Ytkdoilmfchlpdaa.R
end
section
/- What the document's functions of layer 11 compute, and the calls of the layer for whatever numbers. -/
namespace Go.Proofs.Ytkdoilmfchlpdaa.R
open Go.RowKit Go.Proofs.YtkdoilmfchlpdaaW.PrintWords Go.Proofs.YtkdoilmfchlpdaaW.PrintLast Go.Proofs.YtkdoilmfchlpdaaW.PrintMore Go.Proofs.Ytkdoilmfchlpdaa.A Go.Proofs.Ytkdoilmfchlpdaa.B Go.Proofs.Ytkdoilmfchlpdaa.RI GP
set_option linter.unusedVariables false
set_option linter.unusedSimpArgs false
/-- The numbers that stand for k shards. -/
structure Us (k : Nat) (l : List Int) : Prop where
  len : k ≤ l.length
  low : ∀ i, i < k → 0 ≤ l.getD i 0 ∧ l.getD i 0 < 256
  inj : ∀ i j, i < k → j < k → nn l i = nn l j → i = j
theorem Us.get {k : Nat} {l : List Int} (h : Us k l) {i : Nat} (hi : i < k) : l.getD i 0 = ((nn l i : Nat) : Int) := by
  have := h.low i hi
  unfold nn; omega
theorem Us.lt {k : Nat} {l : List Int} (h : Us k l) {i : Nat} (hi : i < k) : nn l i < 256 := by
  have := h.low i hi
  unfold nn; omega
/-- The error of a family and its numbers. -/
def parE (f k m : Int) : Int := if f = 0 ∨ f = 1 then (if 1 ≤ k ∧ 1 ≤ m ∧ k ≤ 256 ∧ m ≤ 256 ∧ k + m ≤ 256 then 0 else 4) else 2
end Go.Proofs.Ytkdoilmfchlpdaa.R
end
