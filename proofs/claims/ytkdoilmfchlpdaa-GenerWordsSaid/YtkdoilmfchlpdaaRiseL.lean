/- Rising lists of numbers below n; what they leave out. -/
import Derived.Test.YtkdoilmfchlpdaaRowsI
import Derived.Test.YtkdoilmfchlpdaaZ5

namespace Go.Proofs.Ytkdoilmfchlpdaa.RI
open Go.RowKit Go.Proofs.YtkdoilmfchlpdaaW.PrintWords Go.Proofs.YtkdoilmfchlpdaaW.PrintLast Go.Proofs.YtkdoilmfchlpdaaW.PrintMore Go.Proofs.Ytkdoilmfchlpdaa.A
set_option linter.unusedVariables false
set_option linter.unusedSimpArgs false
/-- Are the numbers rising, below n? -/
def riB (n : Int) (l : List Int) : Bool := (List.range l.length).all fun i => decide (0 ≤ l.getD i 0) && decide (l.getD i 0 < n) && (decide (i = 0) || decide (l.getD (i - 1) 0 < l.getD i 0))
theorem riB_iff {n : Int} {l : List Int} : riB n l = true ↔ ∀ i, i < l.length → 0 ≤ l.getD i 0 ∧ l.getD i 0 < n ∧ (i = 0 ∨ l.getD (i - 1) 0 < l.getD i 0) := by
  unfold riB
  simp only [List.all_eq_true, List.mem_range, Bool.and_eq_true, Bool.or_eq_true, decide_eq_true_eq]
  exact ⟨fun h i hi => ⟨(h i hi).1.1, (h i hi).1.2, (h i hi).2⟩, fun h i hi => ⟨⟨(h i hi).1, (h i hi).2.1⟩, (h i hi).2.2⟩⟩
theorem Numbers (n : Int) {l : List Int} (hl : l.length < 2 ^ 62) : Ev (fun k => gener_numbers.f k l n) (riB n l) := by
  unfold gener_numbers.f
  have step : ∀ i, i < l.length → (0 ≤ l.getD i 0 ∧ l.getD i 0 < n ∧ (i = 0 ∨ l.getD (i - 1) 0 < l.getD i 0)) → ∀ b, Ev (fun k => gener_numbers.l0 k l n l (l.length : Int) ((i + 1 : Nat) : Int)) b → Ev (fun k => gener_numbers.l0 k l n l (l.length : Int) ((i : Nat) : Int)) b := by
    intro i hi ⟨g1, g2, g3⟩ b nx
    refine Ev.step (fun k => gener_numbers.l0.eq_2 _ _ _ _ _ k) ?_
    simp only [if_pos (show ((i : Nat) : Int) < (l.length : Int) by omega), if_pos (show (0 : Int) ≤ (i : Int) by omega), rd_nat, if_neg (show ¬ l.getD i 0 < 0 by omega), if_neg (show ¬ l.getD i 0 ≥ n by omega), wr_up (n := i) (by omega)]
    by_cases h0 : ((i : Nat) : Int) > 0
    · have e1 : wrap64 ((i : Int) - 1) = ((i - 1 : Nat) : Int) := by rw [w64 (by omega) (by omega)]; omega
      have g4 : l.getD (i - 1) 0 < l.getD i 0 := by rcases g3 with z | z; (· omega); (· exact z)
      simp only [if_pos h0, e1, if_pos (show (0 : Int) ≤ ((i - 1 : Nat) : Int) by omega), if_pos (show ((i - 1 : Nat) : Int) < (l.length : Int) by omega), rd_nat, if_neg (show ¬ l.getD i 0 ≤ l.getD (i - 1) 0 by omega)]
      exact nx
    · simp only [if_neg h0]
      exact nx
  have stop : ∀ i, i < l.length → ¬ (0 ≤ l.getD i 0 ∧ l.getD i 0 < n ∧ (i = 0 ∨ l.getD (i - 1) 0 < l.getD i 0)) → Ev (fun k => gener_numbers.l0 k l n l (l.length : Int) ((i : Nat) : Int)) false := by
    intro i hi hb
    refine Ev.step (fun k => gener_numbers.l0.eq_2 _ _ _ _ _ k) ?_
    simp only [if_pos (show ((i : Nat) : Int) < (l.length : Int) by omega), if_pos (show (0 : Int) ≤ (i : Int) by omega), rd_nat]
    by_cases c1 : l.getD i 0 < 0
    · simp only [if_pos c1]; exact Ev.now _
    · by_cases c2 : l.getD i 0 ≥ n
      · simp only [if_neg c1, if_pos c2]; exact Ev.now _
      · by_cases h0 : ((i : Nat) : Int) > 0
        · have e1 : wrap64 ((i : Int) - 1) = ((i - 1 : Nat) : Int) := by rw [w64 (by omega) (by omega)]; omega
          have c3 : l.getD i 0 ≤ l.getD (i - 1) 0 := by
            apply Classical.byContradiction; intro hc
            exact hb ⟨by omega, by omega, .inr (by omega)⟩
          simp only [if_neg c1, if_neg c2, if_pos h0, e1, if_pos (show (0 : Int) ≤ ((i - 1 : Nat) : Int) by omega), if_pos (show ((i - 1 : Nat) : Int) < (l.length : Int) by omega), rd_nat, if_pos c3]
          exact Ev.now _
        · exact absurd ⟨by omega, by omega, .inl (by omega)⟩ hb
  cases hlo : riB n l with
  | true =>
    have hli := riB_iff.1 hlo
    refine ev_up (L := fun k i => gener_numbers.l0 k l n l (l.length : Int) ((i : Nat) : Int)) (n := l.length) ?_ (fun i hi nx => step i hi (hli i hi) true nx) 0 (Nat.zero_le _)
    refine Ev.step (fun k => gener_numbers.l0.eq_2 _ _ _ _ _ k) ?_
    simp only [if_neg (show ¬ ((l.length : Nat) : Int) < (l.length : Int) by omega)]
    exact Ev.now _
  | false =>
    have hex : ∃ i, i < l.length ∧ ¬ (0 ≤ l.getD i 0 ∧ l.getD i 0 < n ∧ (i = 0 ∨ l.getD (i - 1) 0 < l.getD i 0)) := by
      apply Classical.byContradiction
      intro hn
      have : riB n l = true := riB_iff.2 (fun i hi => Classical.byContradiction fun hc => hn ⟨i, hi, hc⟩)
      rw [this] at hlo; exact absurd hlo (by simp)
    obtain ⟨b, hb1, hb2⟩ := hex
    have go : ∀ d i : Nat, i + d = b → Ev (fun k => gener_numbers.l0 k l n l (l.length : Int) ((i : Nat) : Int)) false := by
      intro d
      induction d with
      | zero => intro i hi; rw [Nat.add_zero] at hi; subst hi; exact stop i hb1 hb2
      | succ d ih =>
        intro i hi
        by_cases hg : 0 ≤ l.getD i 0 ∧ l.getD i 0 < n ∧ (i = 0 ∨ l.getD (i - 1) 0 < l.getD i 0)
        · exact step i (by omega) hg false (ih (i + 1) (by omega))
        · exact stop i (by omega) hg
    exact go b 0 (by omega)
/-- In a rising list, place q is as far from the end as the numbers allow. -/
theorem riB_room {n : Nat} {l : List Int} (h : riB (n : Int) l = true) : ∀ d q, q + d + 1 = l.length → l.getD q 0 + ((d + 1 : Nat) : Int) ≤ (n : Int) := by
  have hl := riB_iff.1 h
  intro d
  induction d with
  | zero => intro q hq; have := (hl q (by omega)).2.1; omega
  | succ d ih =>
    intro q hq
    have h1 := ih (q + 1) (by omega)
    have h2 := (hl (q + 1) (by omega)).2.2
    rcases h2 with e | e
    · omega
    · rw [show q + 1 - 1 = q by omega] at e; omega
theorem riB_mono {n : Int} {l : List Int} (h : riB n l = true) : ∀ d i, i + d + 1 < l.length → l.getD i 0 < l.getD (i + d + 1) 0 := by
  have hl := riB_iff.1 h
  intro d
  induction d with
  | zero =>
    intro i hi
    have := (hl (i + 0 + 1) hi).2.2
    rcases this with e | e
    · omega
    · rwa [show i + 0 + 1 - 1 = i by omega] at e
  | succ d ih =>
    intro i hi
    have h3 := ih i (by omega)
    have := (hl (i + (d + 1) + 1) (by omega)).2.2
    rcases this with e | e
    · omega
    · rw [show i + (d + 1) + 1 - 1 = i + d + 1 by omega] at e; omega
/-- The numbers below x that the first ones of l leave out: x and the place in l. -/
structure Gone (l : List Int) (x q : Nat) (m : List Int) : Prop where
  le : q ≤ l.length
  len : m.length + q = x
  low : ∀ i, i < q → l.getD i 0 < (x : Int)
  high : ∀ i, q ≤ i → i < l.length → (x : Int) ≤ l.getD i 0
/-- The numbers below x that l leaves out. -/
def miss (l : List Int) : Nat → List Int
  | 0 => []
  | x + 1 => if l.any (fun y => y == (x : Int)) then miss l x else miss l x ++ [(x : Int)]
theorem miss_succ (l : List Int) (x : Nat) : miss l (x + 1) = if l.any (fun y => y == (x : Int)) then miss l x else miss l x ++ [(x : Int)] := rfl
theorem mem_any {l : List Int} {x : Nat} {q : Nat} (hq : q < l.length) (h : l.getD q 0 = (x : Int)) : l.any (fun y => y == (x : Int)) = true := by
  rw [List.any_eq_true]
  refine ⟨l[q], List.getElem_mem hq, ?_⟩
  rw [List.getD_eq_getElem?_getD, List.getElem?_eq_getElem hq] at h
  have h' : l[q] = (x : Int) := h
  rw [h']; simp
theorem Gone.start (l : List Int) {n : Int} (h : riB n l = true) : Gone l 0 0 (miss l 0) := ⟨Nat.zero_le _, rfl, fun i hi => by omega, fun i _ hi => ((riB_iff.1 h) i hi).1⟩
theorem Gone.hit {l : List Int} {n : Int} (h : riB n l = true) {x q : Nat} (g : Gone l x q (miss l x)) (hq : q < l.length) (e : l.getD q 0 = (x : Int)) : Gone l (x + 1) (q + 1) (miss l (x + 1)) ∧ miss l (x + 1) = miss l x := by
  have hm : miss l (x + 1) = miss l x := by rw [miss_succ, if_pos (mem_any hq e)]
  refine ⟨⟨by omega, by rw [hm]; have := g.len; omega, fun i hi => ?_, fun i h1 h2 => ?_⟩, hm⟩
  · by_cases e2 : i = q
    · subst e2; omega
    · have := g.low i (by omega); omega
  · have := riB_mono h (i - q - 1) q (by omega)
    rw [show q + (i - q - 1) + 1 = i by omega] at this
    omega
theorem Gone.skip {l : List Int} {n : Int} (h : riB n l = true) {x q : Nat} (g : Gone l x q (miss l x)) (e : ¬ (q < l.length ∧ l.getD q 0 = (x : Int))) : Gone l (x + 1) q (miss l (x + 1)) ∧ miss l (x + 1) = miss l x ++ [(x : Int)] := by
  have hno : ¬ l.any (fun y => y == (x : Int)) = true := by
    intro ha
    obtain ⟨y, hy, he⟩ := List.any_eq_true.1 ha
    rw [beq_iff_eq] at he
    obtain ⟨i, hi, rfl⟩ := List.getElem_of_mem hy
    have hg : l.getD i 0 = (x : Int) := by rw [List.getD_eq_getElem?_getD, List.getElem?_eq_getElem hi]; exact he
    by_cases h1 : i < q
    · have := g.low i h1; omega
    · by_cases h2 : i = q
      · subst h2; exact e ⟨hi, hg⟩
      · have h3 := riB_mono h (i - q - 1) q (by omega)
        rw [show q + (i - q - 1) + 1 = i by omega] at h3
        have := g.high q (Nat.le_refl _) (by omega)
        omega
  have hm : miss l (x + 1) = miss l x ++ [(x : Int)] := by rw [miss_succ, if_neg hno]
  refine ⟨⟨g.le, by rw [hm, List.length_append]; have := g.len; simp; omega, fun i hi => by have := g.low i hi; omega, fun i h1 h2 => ?_⟩, hm⟩
  have h3 := g.high i h1 h2
  by_cases e2 : l.getD i 0 = (x : Int)
  · by_cases h4 : i = q
    · subst h4; exact absurd ⟨h2, e2⟩ e
    · have h5 := riB_mono h (i - q - 1) q (by omega)
      rw [show q + (i - q - 1) + 1 = i by omega] at h5
      have := g.high q (Nat.le_refl _) (by omega)
      omega
  · omega
end Go.Proofs.Ytkdoilmfchlpdaa.RI
