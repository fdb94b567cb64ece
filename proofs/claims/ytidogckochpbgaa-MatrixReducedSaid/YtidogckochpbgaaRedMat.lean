/- What the printed helpers about reduced forms compute: sameInts, stairs, unit, ends, Null (stage B). -/
import Derived.Test.YtidogckochpbgaaL2
import Derived.Test.YtidogckochpbgaaNullLaw
import Derived.Test.YtidogckochpbgaaH3
import Derived.Test.YtidogckochpbgaaBx6
import Derived.Test.YtidogckochpbgaaBx7
import Derived.Test.YtidogckochpbgaaBx5
import Derived.Test.YtidogckochpbgaaBx2
namespace Go.Proofs.Ytidogckochpbgaa.R
open Go.RowKit Go.Proofs.YtidogckochpbgaaW.PrintWords Go.Proofs.YtidogckochpbgaaW.PrintLast Go.Proofs.YtidogckochpbgaaW.PrintMore Go.Proofs.Ytidogckochpbgaa.A Go.Proofs.Ytidogckochpbgaa.B GP
set_option linter.unusedVariables false
set_option linter.unusedSimpArgs false
theorem b_rd : @B.rd_L1 = @A.rd_L1 := rfl
/-- Places as whole numbers. -/
def pin (ps : List Nat) : List Int := ps.map fun (p : Nat) => (p : Int)
theorem pin_len (ps : List Nat) : (pin ps).length = ps.length := by simp [pin]
theorem pin_rd {ps : List Nat} {i : Nat} (h : i < ps.length) : rd (pin ps) (i : Int) = ((ps.getD i 0 : Nat) : Int) := by
  unfold rd pin
  rw [Int.toNat_natCast, List.getD_eq_getElem?_getD, List.getD_eq_getElem?_getD, List.getElem?_map, List.getElem?_eq_getElem h]
  rfl
theorem SameInts_self {l : List Int} (h1 : l.length < 2 ^ 62) : Ev (fun k => culletlaw10_sameInts.f k l l) true := by
  have l0 : ∀ d i : Nat, l.length - i ≤ d → i ≤ l.length → Ev (fun k => culletlaw10_sameInts.l0 k l l (i : Int)) true := by
    have fin : ∀ i : Nat, ¬ i < l.length → Ev (fun k => culletlaw10_sameInts.l0 k l l (i : Int)) true := by
      intro i hi
      refine Ev.step (fun k => culletlaw10_sameInts.l0.eq_2 _ _ _ k) ?_
      simp only [if_neg (show ¬ ((i : Nat) : Int) < (l.length : Int) by omega)]
      exact Ev.now _
    intro d
    induction d with
    | zero => intro i h hi; exact fin i (by omega)
    | succ d ih =>
      intro i h hi
      by_cases hlt : i < l.length
      · refine Ev.step (fun k => culletlaw10_sameInts.l0.eq_2 _ _ _ k) ?_
        simp only [if_pos (show ((i : Nat) : Int) < (l.length : Int) by omega), if_pos (show (0 : Int) ≤ (i : Int) by omega), if_true, wr64 (n := i) (by omega)]
        exact ih (i + 1) (by omega) (by omega)
      · exact fin i hlt
  unfold culletlaw10_sameInts.f
  simp only [if_true]
  exact l0 l.length 0 (by omega) (by omega)
theorem g8v0 : (((0 : G8).v : Nat) : Int) = 0 := rfl
theorem g8v1 : (((1 : G8).v : Nat) : Int) = 1 := rfl
theorem Stairs {m w : Nat} (hm : m ≤ 256) (hw : w ≤ 512) {R : Nat → Nat → G8} {ps : List Nat} (h : LA.Red m w w R ps) : Ev (fun k => culletlaw10_stairs.f k (mt m w R) (pin ps)) true := by
  have hlm := h.le
  have l4 : ∀ a : Nat, ps.length ≤ a → a < m → Ev (fun k => culletlaw10_stairs.l3 k (mt m w R) (((a + 1 : Nat)) : Int)) true →
      ∀ d j : Nat, w - j ≤ d → j ≤ w → Ev (fun k => culletlaw10_stairs.l4 k (mt m w R) (a : Int) (j : Int)) true := by
    intro a ha ham next
    have fin : ∀ j : Nat, ¬ j < w → Ev (fun k => culletlaw10_stairs.l4 k (mt m w R) (a : Int) (j : Int)) true := by
      intro j hj
      refine Ev.step (fun k => culletlaw10_stairs.l4.eq_2 _ _ _ k) ?_
      simp only [b_rd, if_pos (show (0 : Int) ≤ (a : Int) by omega), mt_len, if_pos (show ((a : Nat) : Int) < (m : Int) by omega), mt_row ham, rw8_len, if_neg (show ¬ ((j : Nat) : Int) < (w : Int) by omega), wr64 (n := a) (by omega)]
      exact next
    intro d
    induction d with
    | zero => intro j h1 hj; exact fin j (by omega)
    | succ d ih =>
      intro j h1 hj
      by_cases hlt : j < w
      · refine Ev.step (fun k => culletlaw10_stairs.l4.eq_2 _ _ _ k) ?_
        simp only [b_rd, if_pos (show (0 : Int) ≤ (a : Int) by omega), mt_len, if_pos (show ((a : Nat) : Int) < (m : Int) by omega), mt_row ham, rw8_len, if_pos (show ((j : Nat) : Int) < (w : Int) by omega), if_pos (show (0 : Int) ≤ (j : Int) by omega), rw8_get hlt, h.rest a j ha ham hlt, g8v0, if_true, wr64 (n := j) (by omega)]
        exact ih (j + 1) (by omega) (by omega)
      · exact fin j hlt
  have l3 : ∀ d a : Nat, m - a ≤ d → ps.length ≤ a → a ≤ m → Ev (fun k => culletlaw10_stairs.l3 k (mt m w R) (a : Int)) true := by
    have fin : ∀ a : Nat, ¬ a < m → Ev (fun k => culletlaw10_stairs.l3 k (mt m w R) (a : Int)) true := by
      intro a ha
      refine Ev.step (fun k => culletlaw10_stairs.l3.eq_2 _ _ k) ?_
      simp only [mt_len, if_neg (show ¬ ((a : Nat) : Int) < (m : Int) by omega)]
      exact Ev.now _
    intro d
    induction d with
    | zero => intro a h1 h2 h3; exact fin a (by omega)
    | succ d ih =>
      intro a h1 h2 h3
      by_cases hlt : a < m
      · refine Ev.step (fun k => culletlaw10_stairs.l3.eq_2 _ _ k) ?_
        simp only [mt_len, if_pos (show ((a : Nat) : Int) < (m : Int) by omega)]
        exact l4 a h2 hlt (ih (a + 1) (by omega) (by omega) (by omega)) w 0 (by omega) (by omega)
      · exact fin a hlt
  have l2 : ∀ i : Nat, i < ps.length → Ev (fun k => culletlaw10_stairs.l0 k (mt m w R) (pin ps) (((i + 1 : Nat)) : Int)) true →
      ∀ d a : Nat, m - a ≤ d → a ≤ m → Ev (fun k => culletlaw10_stairs.l2 k (mt m w R) (pin ps) (i : Int) ((ps.getD i 0 : Nat) : Int) (a : Int)) true := by
    intro i hi next
    have hb := h.below' hi
    have fin : ∀ a : Nat, ¬ a < m → Ev (fun k => culletlaw10_stairs.l2 k (mt m w R) (pin ps) (i : Int) ((ps.getD i 0 : Nat) : Int) (a : Int)) true := by
      intro a ha
      refine Ev.step (fun k => culletlaw10_stairs.l2.eq_2 _ _ _ _ _ k) ?_
      simp only [mt_len, if_neg (show ¬ ((a : Nat) : Int) < (m : Int) by omega), wr64 (n := i) (by omega)]
      exact next
    intro d
    induction d with
    | zero => intro a h1 h2; exact fin a (by omega)
    | succ d ih =>
      intro a h1 h2
      by_cases hlt : a < m
      · refine Ev.step (fun k => culletlaw10_stairs.l2.eq_2 _ _ _ _ _ k) ?_
        have nx := ih (a + 1) (by omega) (by omega)
        simp only [b_rd, mt_len, if_pos (show ((a : Nat) : Int) < (m : Int) by omega), if_pos (show (0 : Int) ≤ (a : Int) by omega), if_pos (show (0 : Int) ≤ ((ps.getD i 0 : Nat) : Int) by omega), mt_row hlt, rw8_len, if_pos (show ((ps.getD i 0 : Nat) : Int) < (w : Int) by omega), rw8_get hb, wr64 (n := a) (by omega)]
        by_cases e : a = i
        · subst e
          simp only [h.lead' hi, g8v1, if_neg (show ¬ (1 : Int) = 0 by omega), if_true]
          exact nx
        · simp only [h.clean' hi hlt e, g8v0, if_true, if_neg (show ¬ (0 : Int) = 1 by omega), if_neg (show ¬ ((a : Nat) : Int) = (i : Int) by omega)]
          exact nx
      · exact fin a hlt
  have l1 : ∀ i : Nat, i < ps.length → Ev (fun k => culletlaw10_stairs.l0 k (mt m w R) (pin ps) (((i + 1 : Nat)) : Int)) true →
      ∀ d j : Nat, ps.getD i 0 - j ≤ d → j ≤ ps.getD i 0 → Ev (fun k => culletlaw10_stairs.l1 k (mt m w R) (pin ps) (i : Int) ((ps.getD i 0 : Nat) : Int) (j : Int)) true := by
    intro i hi next
    have hb := h.below' hi
    have him : i < m := by omega
    have fin : ∀ j : Nat, ¬ j < ps.getD i 0 → Ev (fun k => culletlaw10_stairs.l1 k (mt m w R) (pin ps) (i : Int) ((ps.getD i 0 : Nat) : Int) (j : Int)) true := by
      intro j hj
      refine Ev.step (fun k => culletlaw10_stairs.l1.eq_2 _ _ _ _ _ k) ?_
      simp only [if_neg (show ¬ ((j : Nat) : Int) < ((ps.getD i 0 : Nat) : Int) by omega)]
      exact l2 i hi next m 0 (by omega) (by omega)
    intro d
    induction d with
    | zero => intro j h1 h2; exact fin j (by omega)
    | succ d ih =>
      intro j h1 h2
      by_cases hlt : j < ps.getD i 0
      · refine Ev.step (fun k => culletlaw10_stairs.l1.eq_2 _ _ _ _ _ k) ?_
        simp only [b_rd, if_pos (show ((j : Nat) : Int) < ((ps.getD i 0 : Nat) : Int) by omega), mt_len, if_pos (show ((i : Nat) : Int) < (m : Int) by omega), if_pos (show (0 : Int) ≤ (i : Int) by omega), if_pos (show (0 : Int) ≤ (j : Int) by omega), mt_row him, rw8_len, if_pos (show ((j : Nat) : Int) < (w : Int) by omega), rw8_get (show j < w by omega), h.left' hi hlt, g8v0, if_true, wr64 (n := j) (by omega)]
        exact ih (j + 1) (by omega) (by omega)
      · exact fin j hlt
  have l0 : ∀ d i : Nat, ps.length - i ≤ d → i ≤ ps.length → Ev (fun k => culletlaw10_stairs.l0 k (mt m w R) (pin ps) (i : Int)) true := by
    have fin : ∀ i : Nat, ¬ i < ps.length → i ≤ ps.length → Ev (fun k => culletlaw10_stairs.l0 k (mt m w R) (pin ps) (i : Int)) true := by
      intro i hi hi2
      refine Ev.step (fun k => culletlaw10_stairs.l0.eq_2 _ _ _ k) ?_
      simp only [pin_len, if_neg (show ¬ ((i : Nat) : Int) < (ps.length : Int) by omega)]
      exact l3 m ps.length (by omega) (Nat.le_refl _) hlm
    intro d
    induction d with
    | zero => intro i h1 h2; exact fin i (by omega) h2
    | succ d ih =>
      intro i h1 h2
      by_cases hlt : i < ps.length
      · refine Ev.step (fun k => culletlaw10_stairs.l0.eq_2 _ _ _ k) ?_
        have hb := h.below' hlt
        have him : i < m := by omega
        have nx := l1 i hlt (ih (i + 1) (by omega) (by omega)) _ 0 (Nat.le_refl _) (by omega)
        have j1 : Ev (fun k => culletlaw10_stairs.j1 k (mt m w R) (pin ps) (i : Int) ((ps.getD i 0 : Nat) : Int) false) true := by
          refine Ev.step (fun k => culletlaw10_stairs.j1.eq_2 _ _ _ _ _ k) ?_
          simp only [Bool.false_eq_true, if_false]
          exact nx
        simp only [b_rd, pin_len, if_pos (show ((i : Nat) : Int) < (ps.length : Int) by omega), if_pos (show (0 : Int) ≤ (i : Int) by omega), mt_len, if_neg (show ¬ ((i : Nat) : Int) ≥ (m : Int) by omega), pin_rd hlt, if_neg (show ¬ ((ps.getD i 0 : Nat) : Int) < 0 by omega), if_pos (show ((i : Nat) : Int) < (m : Int) by omega), mt_row him, rw8_len, if_neg (show ¬ ((ps.getD i 0 : Nat) : Int) ≥ (w : Int) by omega)]
        by_cases h0 : (i : Int) > 0
        · have e1 : wrap64 ((i : Int) - 1) = ((i - 1 : Nat) : Int) := by rw [wrap64_id (by omega) (by omega)]; omega
          have hr := h.rise' (i := i - 1) (j := i) (by omega) hlt
          simp only [if_pos h0, e1, if_pos (show (0 : Int) ≤ ((i - 1 : Nat) : Int) by omega), if_pos (show ((i - 1 : Nat) : Int) < (ps.length : Int) by omega), pin_rd (show i - 1 < ps.length by omega), decide_eq_false (show ¬ ((ps.getD i 0 : Nat) : Int) ≤ ((ps.getD (i - 1) 0 : Nat) : Int) by omega)]
          exact j1
        · simp only [if_neg h0]
          exact j1
      · exact fin i hlt h2
  unfold culletlaw10_stairs.f
  exact l0 ps.length 0 (by omega) (by omega)
theorem Unit {m w f : Nat} (hm : m ≤ 256) (hw : w ≤ 512) (hf : f < w) {R : Nat → Nat → G8} {ps : List Nat} (h : LA.Red m w w R ps) : Ev (fun k => culletlaw10_unit.f k (rw8 w (LA.nv R ps f)) (f : Int) (pin ps)) true := by
  have hlm := h.le
  have l0 : ∀ d j q : Nat, w - j ≤ d → j ≤ w → LA.At ps q j → Ev (fun k => culletlaw10_unit.l0 k (rw8 w (LA.nv R ps f)) (f : Int) (pin ps) (q : Int) (j : Int)) true := by
    have fin : ∀ j q : Nat, ¬ j < w → Ev (fun k => culletlaw10_unit.l0 k (rw8 w (LA.nv R ps f)) (f : Int) (pin ps) (q : Int) (j : Int)) true := by
      intro j q hj
      refine Ev.step (fun k => culletlaw10_unit.l0.eq_2 _ _ _ _ _ k) ?_
      simp only [rw8_len, if_neg (show ¬ ((j : Nat) : Int) < (w : Int) by omega)]
      exact Ev.now _
    intro d
    induction d with
    | zero => intro j q h1 h2 a; exact fin j q (by omega)
    | succ d ih =>
      intro j q h1 h2 a
      by_cases hlt : j < w
      · have hq := a.1
        have miss : ¬ (q < ps.length ∧ ps.getD q 0 = j) → Ev (fun k => culletlaw10_unit.j1 k (rw8 w (LA.nv R ps f)) (f : Int) (pin ps) (q : Int) (j : Int) false) true := by
          intro e
          obtain ⟨a2, hno⟩ := a.miss h e
          have nx := ih (j + 1) q (by omega) (by omega) a2
          refine Ev.step (fun k => culletlaw10_unit.j1.eq_2 _ _ _ _ _ _ k) ?_
          simp only [Bool.false_eq_true, if_false, if_pos (show (0 : Int) ≤ (j : Int) by omega), rw8_len, if_pos (show ((j : Nat) : Int) < (w : Int) by omega), rw8_get hlt, LA.nv_other hno, wr64 (n := j) (by omega)]
          by_cases e2 : j = f
          · subst e2
            simp only [if_true, g8v1, if_neg (show ¬ (1 : Int) = 0 by omega)]
            exact nx
          · simp only [if_neg e2, g8v0, if_true, if_neg (show ¬ (0 : Int) = 1 by omega), if_neg (show ¬ ((j : Nat) : Int) = (f : Int) by omega)]
            exact nx
        refine Ev.step (fun k => culletlaw10_unit.l0.eq_2 _ _ _ _ _ k) ?_
        simp only [rw8_len, if_pos (show ((j : Nat) : Int) < (w : Int) by omega), pin_len]
        by_cases hql : q < ps.length
        · simp only [if_pos (show ((q : Nat) : Int) < (ps.length : Int) by omega), if_pos (show (0 : Int) ≤ (q : Int) by omega), pin_rd hql]
          by_cases e : ps.getD q 0 = j
          · have nx := ih (j + 1) (q + 1) (by omega) (by omega) (a.hit h hql e)
            simp only [beq_iff_eq.2 (show ((ps.getD q 0 : Nat) : Int) = (j : Int) by omega)]
            refine Ev.step (fun k => culletlaw10_unit.j1.eq_2 _ _ _ _ _ _ k) ?_
            simp only [if_true, wr64 (n := j) (by omega), wr64 (n := q) (by omega)]
            exact nx
          · simp only [beq_eq_false_iff_ne.2 (show ((ps.getD q 0 : Nat) : Int) ≠ (j : Int) by omega)]
            exact miss (fun e2 => e e2.2)
        · simp only [if_neg (show ¬ ((q : Nat) : Int) < (ps.length : Int) by omega)]
          exact miss (fun e2 => hql e2.1)
      · exact fin j q hlt
  unfold culletlaw10_unit.f
  exact l0 w 0 0 (by omega) (by omega) (LA.At.start ps)
theorem Ends {w : Nat} (hw : w ≤ 512) {u v : Nat → G8} (h : LA.sm w (fun j => u j * v j) = 0) : Ev (fun k => culletlaw10_ends.f k (rw8 w u) (rw8 w v)) true := by
  have l0 : ∀ d j : Nat, w - j ≤ d → j ≤ w → Ev (fun k => culletlaw10_ends.l0 k (rw8 w u) (rw8 w v) (((LA.sm j (fun j => u j * v j)).v : Nat) : Int) (j : Int)) true := by
    have fin : ∀ j : Nat, ¬ j < w → j ≤ w → Ev (fun k => culletlaw10_ends.l0 k (rw8 w u) (rw8 w v) (((LA.sm j (fun j => u j * v j)).v : Nat) : Int) (j : Int)) true := by
      intro j hj hj2
      obtain rfl : j = w := by omega
      refine Ev.step (fun k => culletlaw10_ends.l0.eq_2 _ _ _ _ k) ?_
      simp only [rw8_len, if_neg (show ¬ ((j : Nat) : Int) < (j : Int) by omega), h, g8v0, if_true, beq_self_eq_true]
      exact Ev.now _
    intro d
    induction d with
    | zero => intro j h1 h2; exact fin j (by omega) h2
    | succ d ih =>
      intro j h1 h2
      by_cases hlt : j < w
      · refine Ev.step (fun k => culletlaw10_ends.l0.eq_2 _ _ _ _ k) ?_
        simp only [rw8_len, if_pos (show ((j : Nat) : Int) < (w : Int) by omega), if_pos (show (0 : Int) ≤ (j : Int) by omega), rw8_get hlt, wr64 (n := j) (by omega)]
        refine Ev.bind (Mul8 (u j).2 (v j).2) ?_
        have ex : Go.bits .xor .u8 (((LA.sm j (fun j => u j * v j)).v : Nat) : Int) ((m8 (u j).v (v j).v : Nat) : Int) = (((LA.sm (j + 1) (fun j => u j * v j)).v : Nat) : Int) := bits_xor8 (LA.sm j (fun j => u j * v j)).2 (m8_lt _ _)
        rw [ex]
        exact ih (j + 1) (by omega) (by omega)
      · exact fin j hlt h2
  unfold culletlaw10_ends.f
  exact l0 w 0 (by omega) (by omega)
/-- The columns below f without a pivot. -/
def fc (ps : List Nat) (f : Nat) : List Nat := (List.range f).filter fun j => decide (j ∉ ps)
theorem mem_getD {ps : List Nat} {j : Nat} : j ∈ ps ↔ ∃ i, i < ps.length ∧ ps.getD i 0 = j := by
  constructor
  · intro h
    obtain ⟨i, hi, rfl⟩ := List.getElem_of_mem h
    exact ⟨i, hi, LA.getD_eq hi⟩
  · rintro ⟨i, hi, rfl⟩
    rw [LA.getD_eq hi]; exact List.getElem_mem hi
theorem fc_hit {ps : List Nat} {f : Nat} (h : f ∈ ps) : fc ps (f + 1) = fc ps f := by
  unfold fc
  rw [List.range_succ, List.filter_append]
  simp [h]
theorem fc_miss {ps : List Nat} {f : Nat} (h : f ∉ ps) : fc ps (f + 1) = fc ps f ++ [f] := by
  unfold fc
  rw [List.range_succ, List.filter_append]
  simp [h]
theorem fc_len {m w : Nat} {R : Nat → Nat → G8} {ps : List Nat} (h : LA.Red m w w R ps) : ∀ f q, LA.At ps q f → (fc ps f).length + q = f := by
  intro f
  induction f with
  | zero =>
    intro q a
    have : q = 0 := by
      by_cases e : q = 0
      · exact e
      · have := a.2.1 0 (by omega); omega
    subst this; rfl
  | succ f ih =>
    intro q a
    by_cases hf : f ∈ ps
    · rw [fc_hit hf]
      obtain ⟨i, hi, e⟩ := mem_getD.1 hf
      have h1 : i < q := by
        by_cases e1 : i < q
        · exact e1
        · have := a.2.2 i (by omega) hi; omega
      have h2 : i = q - 1 := by
        by_cases e1 : i < q - 1
        · have r := h.rise' e1 (show q - 1 < ps.length by have := a.1; omega)
          have := a.2.1 (q - 1) (by omega); omega
        · omega
      have := ih (q - 1) ⟨by have := a.1; omega, fun k hk => by have := h.rise' (i := k) (j := q - 1) hk (by have := a.1; omega); rw [← h2, e] at this; exact this, fun k hk hl => by
        by_cases e1 : k = q - 1
        · rw [e1, ← h2, e]; exact Nat.le_refl _
        · have := a.2.2 k (by omega) hl; omega⟩
      omega
    · rw [fc_miss hf, List.length_append]
      have := ih q ⟨a.1, fun k hk => by
        have h1 := a.2.1 k hk
        have h2 : ps.getD k 0 ≠ f := fun e => hf (mem_getD.2 ⟨k, by have := a.1; omega, e⟩)
        omega, fun k hk hl => by have := a.2.2 k hk hl; omega⟩
      simp only [List.length_cons, List.length_nil]
      omega
/-- The null vectors of the columns below f. -/
def nvs (w : Nat) (R : Nat → Nat → G8) (ps : List Nat) (f : Nat) : List (List Int) := (fc ps f).map fun j => rw8 w (LA.nv R ps j)
end Go.Proofs.Ytidogckochpbgaa.R
