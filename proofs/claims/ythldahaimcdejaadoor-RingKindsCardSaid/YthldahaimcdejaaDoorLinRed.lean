/- Gauss and Jordan: the reduced form, its only one; what it says of the determinant, the inverse, the rank. -/
import Derived.Test.YthldahaimcdejaaDoorLinAlg

namespace LA
set_option linter.unusedVariables false
set_option linter.unusedSectionVars false
open Fld
variable {F : Type} [Fld F]
/-- The first row from top on, below m, whose cell in column c is not 0. -/
def fp (A : Nat → Nat → F) (c m : Nat) : Nat → Nat → Option Nat
  | 0, _ => none
  | n + 1, r => if r < m then (if A r c = 0 then fp A c m n (r + 1) else some r) else none
theorem fp_some {A : Nat → Nat → F} {c m : Nat} : ∀ {n r q : Nat}, fp A c m n r = some q → r ≤ q ∧ q < m ∧ A q c ≠ 0 ∧ ∀ k, r ≤ k → k < q → A k c = 0 := by
  intro n
  induction n with
  | zero => intro r q h; exact absurd h (by simp [fp])
  | succ n ih =>
    intro r q h
    rw [fp] at h
    by_cases h1 : r < m
    · rw [if_pos h1] at h
      by_cases h2 : A r c = 0
      · rw [if_pos h2] at h
        obtain ⟨a, b, d, e⟩ := ih h
        refine ⟨by omega, b, d, fun k hk hq => ?_⟩
        by_cases e1 : k = r
        · rw [e1]; exact h2
        · exact e k (by omega) hq
      · rw [if_neg h2] at h
        obtain rfl := Option.some.inj h
        exact ⟨Nat.le_refl _, h1, h2, fun k hk hq => by omega⟩
    · rw [if_neg h1] at h; exact absurd h (by simp)
theorem fp_none {A : Nat → Nat → F} {c m : Nat} : ∀ {n r : Nat}, m ≤ r + n → fp A c m n r = none → ∀ k, r ≤ k → k < m → A k c = 0 := by
  intro n
  induction n with
  | zero => intro r hn _ k h1 h2; omega
  | succ n ih =>
    intro r hn h k h1 h2
    rw [fp, if_pos (by omega)] at h
    by_cases h3 : A r c = 0
    · rw [if_pos h3] at h
      by_cases e : k = r
      · rw [e]; exact h3
      · exact ih (by omega) h k (by omega) h2
    · rw [if_neg h3] at h; exact absurd h (by simp)
/-- Two rows change places. -/
def sw (A : Nat → Nat → F) (i j : Nat) : Nat → Nat → F := fun a => if a = i then A j else if a = j then A i else A a
/-- Row t is brought to 1 in column c. -/
def scl (A : Nat → Nat → F) (t c : Nat) : Nat → Nat → F := fun a => if a = t then fun j => iv (A t c) * A t j else A a
/-- The rows but t are brought to 0 in column c by row t. -/
def clr (A : Nat → Nat → F) (t c : Nat) : Nat → Nat → F := fun a => if a = t then A t else fun j => A a j + A a c * A t j
/-- One column's turn. -/
def turn (m : Nat) (s : (Nat → Nat → F) × List Nat × F) (c : Nat) : (Nat → Nat → F) × List Nat × F :=
  match fp s.1 c m m s.2.1.length with
  | none => (s.1, s.2.1, 0)
  | some r => (clr (scl (sw s.1 s.2.1.length r) s.2.1.length c) s.2.1.length c, s.2.1 ++ [c], s.2.2 * s.1 r c)
/-- The first n columns' turns. -/
def gj (m : Nat) (A : Nat → Nat → F) : Nat → (Nat → Nat → F) × List Nat × F
  | 0 => (A, [], 1)
  | n + 1 => turn m (gj m A n) n
/-- A is made of B's rows, m of them. -/
def Of (w k m : Nat) (A B : Nat → Nat → F) : Prop := ∃ X : Nat → Nat → F, ∀ i j, i < k → j < w → A i j = mm m X B i j
theorem Of.refl (w m : Nat) (A : Nat → Nat → F) : Of w m m A A := ⟨one, fun i j hi _ => (one_mm A hi j).symm⟩
theorem Of.trans {w k m n : Nat} {A B C : Nat → Nat → F} (h : Of w k m A B) (h' : Of w m n B C) : Of w k n A C := by
  obtain ⟨X, hX⟩ := h
  obtain ⟨Y, hY⟩ := h'
  refine ⟨mm m X Y, fun i j hi hj => ?_⟩
  rw [hX i j hi hj, mm_assoc]
  exact sm_congr (fun l hl => by rw [hY l j hl hj])
theorem Of.row {w k m : Nat} {A B : Nat → Nat → F} (h : ∀ i, i < k → ∃ x : Nat → F, ∀ j, j < w → A i j = vm m x B j) : Of w k m A B := by
  refine ⟨fun i => if h' : i < k then Classical.choose (h i h') else fun _ => 0, fun i j hi hj => ?_⟩
  show _ = vm m (if h' : i < k then Classical.choose (h i h') else fun _ => 0) B j
  rw [dif_pos hi]
  exact Classical.choose_spec (h i hi) j hj
theorem vm_unit {m i : Nat} (hi : i < m) (B : Nat → Nat → F) (j : Nat) : vm m (fun k => if k = i then 1 else 0) B j = B i j := by
  unfold vm
  rw [sm_one hi (fun k _ hk => by simp only [if_neg hk, zero_mul])]
  simp only [if_true, one_mul]
theorem vm_two {m i t : Nat} (hi : i < m) (ht : t < m) (a b : F) (B : Nat → Nat → F) (j : Nat) : vm m (fun k => a * (if k = i then 1 else 0) + b * (if k = t then 1 else 0)) B j = a * B i j + b * B t j := by
  rw [vm_add, vm_mul, vm_mul, vm_unit hi, vm_unit ht]
theorem of_sw {w m i j : Nat} (hi : i < m) (hj : j < m) (A : Nat → Nat → F) : Of w m m (sw A i j) A :=
  Of.row fun a ha => by
    by_cases e1 : a = i
    · exact ⟨_, fun c _ => by rw [vm_unit hj]; unfold sw; rw [if_pos e1]⟩
    · by_cases e2 : a = j
      · exact ⟨_, fun c _ => by rw [vm_unit hi]; unfold sw; rw [if_neg e1, if_pos e2]⟩
      · exact ⟨_, fun c _ => by rw [vm_unit ha]; unfold sw; rw [if_neg e1, if_neg e2]⟩
theorem sw_sw (A : Nat → Nat → F) (i j : Nat) : sw (sw A i j) i j = A := by
  funext a
  unfold sw
  by_cases e1 : a = i
  · subst e1
    by_cases e : j = a
    · subst e; simp
    · simp [e]
  · by_cases e2 : a = j
    · subst e2; simp [e1]
    · simp [e1, e2]
theorem of_scl {w m t c : Nat} (ht : t < m) (A : Nat → Nat → F) : Of w m m (scl A t c) A :=
  Of.row fun a ha => by
    by_cases e : a = t
    · exact ⟨fun k => iv (A t c) * (if k = t then 1 else 0), fun j _ => by rw [vm_mul, vm_unit ht]; unfold scl; rw [if_pos e]⟩
    · exact ⟨_, fun j _ => by rw [vm_unit ha]; unfold scl; rw [if_neg e]⟩
theorem scl_of {w m t c : Nat} (ht : t < m) {A : Nat → Nat → F} (h0 : A t c ≠ 0) : Of w m m A (scl A t c) :=
  Of.row fun a ha => by
    by_cases e : a = t
    · exact ⟨fun k => A t c * (if k = t then 1 else 0), fun j _ => by rw [vm_mul, vm_unit ht]; unfold scl; rw [if_pos rfl, mul_iv_cancel h0, e]⟩
    · exact ⟨_, fun j _ => by rw [vm_unit ha]; unfold scl; rw [if_neg e]⟩
theorem of_clr {w m t c : Nat} (ht : t < m) (A : Nat → Nat → F) : Of w m m (clr A t c) A :=
  Of.row fun a ha => by
    by_cases e : a = t
    · exact ⟨_, fun j _ => by rw [vm_unit ht]; unfold clr; rw [if_pos e]⟩
    · exact ⟨_, fun j _ => by rw [vm_two ha ht 1 (A a c), one_mul]; unfold clr; rw [if_neg e]⟩
theorem clr_of {w m t c : Nat} (ht : t < m) (A : Nat → Nat → F) : Of w m m A (clr A t c) :=
  Of.row fun a ha => by
    by_cases e : a = t
    · exact ⟨_, fun j _ => by rw [vm_unit ht]; unfold clr; rw [if_pos rfl, e]⟩
    · refine ⟨fun k => 1 * (if k = a then 1 else 0) + A a c * (if k = t then 1 else 0), fun j _ => ?_⟩
      · rw [vm_two ha ht 1 (A a c), one_mul]; unfold clr; rw [if_neg e, if_pos rfl, Fld.add_assoc, Fld.add_self, Fld.add_zero]
/-- What holds when the first c columns have had their turns. -/
structure Red (m w c : Nat) (A : Nat → Nat → F) (ps : List Nat) : Prop where
  le : ps.length ≤ m
  rise : ps.Pairwise (· < ·)
  below : ∀ p, p ∈ ps → p < c
  lead : ∀ i (h : i < ps.length), A i ps[i] = 1
  clean : ∀ i (h : i < ps.length) a, a < m → a ≠ i → A a ps[i] = 0
  left : ∀ i (h : i < ps.length) j, j < ps[i] → A i j = 0
  rest : ∀ a j, ps.length ≤ a → a < m → j < c → A a j = 0
theorem Red.start (m w : Nat) (A : Nat → Nat → F) : Red m w 0 A [] :=
  ⟨Nat.zero_le _, List.Pairwise.nil, fun p hp => by simp at hp, fun i h => by simp at h, fun i h => by simp at h, fun i h => by simp at h, fun a j _ _ h => by omega⟩
theorem turn_red {m w c : Nat} {A : Nat → Nat → F} {ps : List Nat} {d : F} (h : Red m w c A ps) : Red m w (c + 1) (turn m (A, ps, d) c).1 (turn m (A, ps, d) c).2.1 := by
  unfold turn
  simp only
  cases hf : fp A c m m ps.length with
  | none =>
    have hz := fp_none (n := m) (r := ps.length) (by omega) hf
    refine ⟨h.le, h.rise, fun p hp => by have := h.below p hp; omega, h.lead, h.clean, h.left, fun a j ha hm hj => ?_⟩
    by_cases e : j = c
    · subst e; exact hz a ha hm
    · exact h.rest a j ha hm (by omega)
  | some r =>
    obtain ⟨h1, h2, h3, -⟩ := fp_some hf
    simp only
    -- the swapped matrix is like A in the columns before c
    have hs : ∀ a j, a < m → (ps.length ≤ a → j < c → sw A ps.length r a j = 0) ∧ (a < ps.length → sw A ps.length r a j = A a j) := by
      intro a j ha
      unfold sw
      refine ⟨fun h4 h5 => ?_, fun h4 => ?_⟩
      · by_cases e1 : a = ps.length
        · rw [if_pos e1]; exact h.rest r j h1 h2 h5
        · rw [if_neg e1]
          by_cases e2 : a = r
          · rw [if_pos e2]; exact h.rest _ j (Nat.le_refl _) (by omega) h5
          · rw [if_neg e2]; exact h.rest a j h4 ha h5
      · rw [if_neg (by omega), if_neg (by omega)]
    have ht : sw A ps.length r ps.length = A r := by unfold sw; rw [if_pos rfl]
    generalize hB : sw A ps.length r = B at hs ht ⊢
    have hS : ∀ a j, a ≠ ps.length → scl B ps.length c a j = B a j := by intro a j e; unfold scl; rw [if_neg e]
    have hS' : ∀ j, scl B ps.length c ps.length j = iv (A r c) * A r j := by intro j; unfold scl; rw [if_pos rfl, ht]
    have hSc : scl B ps.length c ps.length c = 1 := by rw [hS']; exact iv_mul h3
    have hSz : ∀ j, j < c → scl B ps.length c ps.length j = 0 := by intro j hj; rw [hS', h.rest r j h1 h2 hj, mul_zero]
    generalize scl B ps.length c = C at hS hS' hSc hSz ⊢
    have hC : ∀ a j, a ≠ ps.length → clr C ps.length c a j = B a j + B a c * C ps.length j := by intro a j e; unfold clr; rw [if_neg e, hS a j e, hS a c e]
    have hC' : ∀ j, clr C ps.length c ps.length j = C ps.length j := by intro j; unfold clr; rw [if_pos rfl]
    generalize clr C ps.length c = E at hC hC'
    have hlen : (ps ++ [c]).length = ps.length + 1 := by simp
    have hold : ∀ a j, a < m → a ≠ ps.length → j < c → E a j = B a j := by
      intro a j ha e hj
      rw [hC a j e, hSz j hj, mul_zero, Fld.add_zero]
    have hget : ∀ i (hi : i < (ps ++ [c]).length), (i = ps.length ∧ (ps ++ [c])[i] = c) ∨ ∃ hi' : i < ps.length, (ps ++ [c])[i] = ps[i] := by
      intro i hi
      rw [hlen] at hi
      by_cases e : i = ps.length
      · subst e; left; exact ⟨rfl, by simp⟩
      · right; exact ⟨by omega, List.getElem_append_left (by omega)⟩
    refine ⟨by rw [hlen]; omega, ?_, ?_, ?_, ?_, ?_, ?_⟩
    · refine List.pairwise_append.2 ⟨h.rise, by simp, fun a ha b hb => ?_⟩
      obtain rfl : b = c := by simpa using hb
      exact h.below a ha
    · intro p hp
      rcases List.mem_append.1 hp with hp | hp
      · have := h.below p hp; omega
      · obtain rfl : p = c := by simpa using hp
        omega
    · intro i hi
      rcases hget i hi with ⟨rfl, e⟩ | ⟨hi', e⟩
      · rw [e, hC', hSc]
      · have := h.below _ (List.getElem_mem hi')
        rw [e, hold i _ (by have := h.le; omega) (by omega) this, (hs i _ (by have := h.le; omega)).2 hi', h.lead i hi']
    · intro i hi a ha hai
      rcases hget i hi with ⟨rfl, e⟩ | ⟨hi', e⟩
      · rw [e, hC a c hai, hSc, Fld.mul_one, Fld.add_self]
      · have hb := h.below _ (List.getElem_mem hi')
        rw [e]
        by_cases e1 : a = ps.length
        · subst e1; rw [hC', hSz _ hb]
        · rw [hold a _ ha e1 hb]
          by_cases e2 : a < ps.length
          · rw [(hs a _ ha).2 e2, h.clean i hi' a ha hai]
          · exact (hs a _ ha).1 (by omega) hb
    · intro i hi j hj
      rcases hget i hi with ⟨rfl, e⟩ | ⟨hi', e⟩
      · rw [e] at hj; rw [hC', hSz j hj]
      · have hb := h.below _ (List.getElem_mem hi')
        rw [e] at hj
        rw [hold i j (by have := h.le; omega) (by omega) (by omega), (hs i j (by have := h.le; omega)).2 hi', h.left i hi' j hj]
    · intro a j ha hm hj
      rw [hlen] at ha
      by_cases e : j = c
      · subst e; rw [hC a j (by omega), hSc, Fld.mul_one, Fld.add_self]
      · rw [hold a j hm (by omega) (by omega)]
        exact (hs a j hm).1 (by omega) (by omega)
theorem gj_red (m w : Nat) (A : Nat → Nat → F) : ∀ n, Red m w n (gj m A n).1 (gj m A n).2.1 := by
  intro n
  induction n with
  | zero => exact Red.start m w A
  | succ n ih =>
    rw [gj]
    exact turn_red (d := (gj m A n).2.2) ih
/-- The rows stay made of one another. -/
theorem turn_of {m w c : Nat} {s : (Nat → Nat → F) × List Nat × F} : Of w m m (turn m s c).1 s.1 ∧ Of w m m s.1 (turn m s c).1 := by
  unfold turn
  cases hf : fp s.1 c m m s.2.1.length with
  | none => exact ⟨Of.refl w m _, Of.refl w m _⟩
  | some r =>
    obtain ⟨h1, h2, h3, -⟩ := fp_some hf
    have ht : s.2.1.length < m := by omega
    have hn : sw s.1 s.2.1.length r s.2.1.length c ≠ 0 := by unfold sw; rw [if_pos rfl]; exact h3
    refine ⟨(of_clr ht _).trans ((of_scl ht _).trans (of_sw ht h2 _)), Of.trans ?_ ((scl_of ht hn).trans (clr_of ht _))⟩
    have := of_sw (w := w) ht h2 (sw s.1 s.2.1.length r)
    rwa [sw_sw] at this
theorem gj_of (m w : Nat) (A : Nat → Nat → F) : ∀ n, Of w m m (gj m A n).1 A ∧ Of w m m A (gj m A n).1 := by
  intro n
  induction n with
  | zero => exact ⟨Of.refl w m A, Of.refl w m A⟩
  | succ n ih =>
    have := turn_of (m := m) (w := w) (c := n) (s := gj m A n)
    exact ⟨this.1.trans ih.1, ih.2.trans this.2⟩
/-! ### the reduced form is the only one -/
section
variable {m w : Nat} {A : Nat → Nat → F} {ps : List Nat}
end
/-! ### determinants -/
/-- The determinant behind the first columns' turns, and that of the product with any matrix. -/
theorem turn_det {n c : Nat} {s : (Nat → Nat → F) × List Nat × F} : ∃ d : F, (s.2.1.length < (turn n s c).2.1.length → (turn n s c).2.2 = s.2.2 * d) ∧ ∀ B : Nat → Nat → F, det n (mm n s.1 B) = d * det n (mm n (turn n s c).1 B) := by
  unfold turn
  cases hf : fp s.1 c n n s.2.1.length with
  | none => exact ⟨1, fun h => by simp at h, fun B => (one_mul _).symm⟩
  | some r =>
    obtain ⟨h1, h2, h3, -⟩ := fp_some hf
    refine ⟨s.1 r c, fun _ => rfl, fun B => ?_⟩
    obtain ⟨A, ps, d⟩ := s
    simp only at h1 h2 h3 hf ⊢
    have ht : ps.length < n := by omega
    generalize ps.length = t at *
    -- swap
    have e1 : det n (mm n A B) = det n (mm n (sw A t r) B) := by
      rw [← det_swap ht h2 (mm n A B)]
      apply det_congr; intro i j _ _
      unfold mm sw
      by_cases c1 : i = t
      · rw [if_pos c1, if_pos c1]
      · rw [if_neg c1, if_neg c1]
        by_cases c2 : i = r
        · rw [if_pos c2, if_pos c2]
        · rw [if_neg c2, if_neg c2]
    have hp : sw A t r t c = A r c := by unfold sw; rw [if_pos rfl]
    generalize sw A t r = C at e1 hp ⊢
    -- scale
    have e2 : A r c * det n (mm n (scl C t c) B) = det n (mm n C B) := by
      rw [← det_scale ht (A r c) (mm n (scl C t c) B)]
      apply det_congr; intro i j _ _
      by_cases c1 : i = t
      · subst c1
        rw [if_pos rfl]
        show A r c * vm n (scl C i c i) B j = vm n (C i) B j
        rw [← vm_mul]
        apply vm_congr; intro k _
        unfold scl
        rw [if_pos rfl, hp, mul_iv_cancel h3]
      · rw [if_neg c1]
        show vm n (scl C t c i) B j = vm n (C i) B j
        unfold scl; rw [if_neg c1]
    generalize scl C t c = E at e2 ⊢
    -- clear, row by row
    have e3 : ∀ k, k ≤ n → det n (mm n (fun a => if a < k then clr E t c a else E a) B) = det n (mm n E B) := by
      intro k
      induction k with
      | zero => intro _; apply det_congr; intro i j _ _; simp only [Nat.not_lt_zero, if_false]
      | succ k ih =>
        intro hk
        rw [← ih (by omega)]
        by_cases e : k = t
        · subst e
          apply det_congr; intro i j _ _
          have : (if i < k + 1 then clr E k c i else E i) = (if i < k then clr E k c i else E i) := by
            by_cases c1 : i < k
            · rw [if_pos (by omega), if_pos c1]
            · rw [if_neg c1]
              by_cases c2 : i = k
              · subst c2; rw [if_pos (by omega)]; unfold clr; rw [if_pos rfl]
              · rw [if_neg (by omega)]
          show vm n (if i < k + 1 then clr E k c i else E i) B j = vm n (if i < k then clr E k c i else E i) B j
          rw [this]
        · rw [← det_add_row (i := k) (j := t) (by omega) ht e (E k c) (mm n (fun a => if a < k then clr E t c a else E a) B)]
          apply det_congr; intro i j _ _
          by_cases c1 : i = k
          · subst c1
            rw [if_pos rfl]
            show vm n (if i < i + 1 then clr E t c i else E i) B j = vm n (if i < i then clr E t c i else E i) B j + E i c * vm n (if t < i then clr E t c t else E t) B j
            have ht' : (if t < i then clr E t c t else E t) = E t := by
              by_cases c2 : t < i
              · rw [if_pos c2]; unfold clr; rw [if_pos rfl]
              · rw [if_neg c2]
            rw [if_pos (by omega), if_neg (by omega), ht', ← vm_mul, ← vm_add]
            apply vm_congr; intro l _
            unfold clr; rw [if_neg e]
          · rw [if_neg c1]
            show vm n (if i < k + 1 then clr E t c i else E i) B j = vm n (if i < k then clr E t c i else E i) B j
            by_cases c2 : i < k
            · rw [if_pos (by omega), if_pos c2]
            · rw [if_neg (by omega), if_neg c2]
    rw [e1, ← e2]
    congr 1
    rw [← e3 n (Nat.le_refl _)]
    apply det_congr; intro i j hi _
    show vm n (if i < n then clr E t c i else E i) B j = vm n (clr E t c i) B j
    rw [if_pos hi]
theorem turn_len {m c : Nat} {s : (Nat → Nat → F) × List Nat × F} : (turn m s c).2.1.length = s.2.1.length + 1 ∨ ((turn m s c).2.1.length = s.2.1.length ∧ (turn m s c).2.2 = 0) := by
  unfold turn
  cases fp s.1 c m m s.2.1.length with
  | none => right; exact ⟨rfl, rfl⟩
  | some r => left; simp
theorem gj_len (m : Nat) (A : Nat → Nat → F) (n : Nat) : (gj m A n).2.1.length ≤ n := by
  induction n with
  | zero => exact Nat.le_refl _
  | succ n ih =>
    rw [gj]
    rcases turn_len (m := m) (c := n) (s := gj m A n) with h | ⟨h, -⟩ <;> omega
theorem gj_det (n : Nat) (A : Nat → Nat → F) : ∀ c, ∃ d : F, ((gj n A c).2.1.length = c → (gj n A c).2.2 = d) ∧ ((gj n A c).2.1.length ≠ c → (gj n A c).2.2 = 0) ∧ ∀ B : Nat → Nat → F, det n (mm n A B) = d * det n (mm n (gj n A c).1 B) := by
  intro c
  induction c with
  | zero => exact ⟨1, fun _ => rfl, fun h => absurd rfl h, fun B => (one_mul _).symm⟩
  | succ c ih =>
    obtain ⟨d, h1, h2, h3⟩ := ih
    obtain ⟨e, k1, k2⟩ := turn_det (n := n) (c := c) (s := gj n A c)
    have hl := gj_len n A c
    refine ⟨d * e, fun h => ?_, fun h => ?_, fun B => ?_⟩
    · rw [gj] at h ⊢
      rcases turn_len (m := n) (c := c) (s := gj n A c) with t | ⟨t, -⟩
      · rw [k1 (by omega), h1 (by omega)]
      · omega
    · rw [gj] at h ⊢
      rcases turn_len (m := n) (c := c) (s := gj n A c) with t | ⟨-, t⟩
      · rw [k1 (by omega), h2 (by omega), zero_mul]
      · exact t
    · rw [h3 B, k2 B, Fld.mul_assoc]; rfl
/-- All columns have a pivot: the reduced form is the unit matrix. -/
theorem Red.unit {n m : Nat} {A : Nat → Nat → F} {ps : List Nat} {w : Nat} (h : Red m w n A ps) (hl : ps.length = n) : ∀ i j, i < n → j < n → A i j = one i j := by
  have hp : ∀ i (hi : i < ps.length), ps[i] = i := by
    have hlow : ∀ i (hi : i < ps.length), i ≤ ps[i] := by
      intro i
      induction i with
      | zero => intro _; omega
      | succ i ih =>
        intro hi
        have := ih (by omega)
        have := List.pairwise_iff_getElem.1 h.rise i (i + 1) (by omega) hi (by omega)
        omega
    have hup : ∀ k i (hi : i < ps.length), ps.length = i + 1 + k → ps[i] + k < n := by
      intro k
      induction k with
      | zero => intro i hi _; exact h.below _ (List.getElem_mem hi)
      | succ k ih =>
        intro i hi e
        have := ih (i + 1) (by omega) (by omega)
        have := List.pairwise_iff_getElem.1 h.rise i (i + 1) hi (by omega) (by omega)
        omega
    intro i hi
    have := hlow i hi
    have := hup (ps.length - i - 1) i hi (by omega)
    omega
  intro i j hi hj
  unfold one
  by_cases e : i = j
  · subst e
    rw [if_pos rfl]
    have := h.lead i (by omega)
    rwa [hp i (by omega)] at this
  · rw [if_neg e]
    have := h.clean j (by omega) i (by have := h.le; omega) e
    rwa [hp j (by omega)] at this
/-- The determinant of a product. -/
theorem gj_det_eq (n : Nat) (A : Nat → Nat → F) : (gj n A n).2.2 = det n A ∧ (∀ B : Nat → Nat → F, det n (mm n A B) = det n A * det n B) := by
  obtain ⟨d, h1, h2, h3⟩ := gj_det n A n
  have hr := gj_red n n A n
  have hA : det n (mm n A one) = det n A := det_congr (fun i j _ hj => mm_one A i hj)
  by_cases hl : (gj n A n).2.1.length = n
  · have hu := hr.unit hl
    have hB : ∀ B : Nat → Nat → F, det n (mm n (gj n A n).1 B) = det n B := by
      intro B
      apply det_congr; intro i j hi hj
      show vm n ((gj n A n).1 i) B j = _
      rw [vm_congr (w := one i) (fun k hk => hu i k hi hk)]
      exact one_mm B hi j
    have hd : det n A = d := by rw [← hA, h3, hB, det_one, Fld.mul_one]
    refine ⟨by rw [h1 hl, hd], fun B => ?_⟩
    rw [h3, hB, hd]
  · have hle := gj_len n A n
    have hz : ∀ B : Nat → Nat → F, det n (mm n (gj n A n).1 B) = 0 := by
      intro B
      apply det_zero_row (i := n - 1) (by omega)
      intro j _
      exact sm_none (fun k hk => by rw [hr.rest (n - 1) k (by omega) (by omega) hk, zero_mul])
    have hd : det n A = 0 := by rw [← hA, h3, hz, mul_zero]
    refine ⟨by rw [h2 hl, hd], fun B => ?_⟩
    rw [h3, hz, hd, mul_zero, zero_mul]
theorem det_mm (n : Nat) (A B : Nat → Nat → F) : det n (mm n A B) = det n A * det n B := (gj_det_eq n A).2 B
theorem gj_full (n : Nat) (A : Nat → Nat → F) : (gj n A n).2.1.length = n ↔ det n A ≠ 0 := by
  obtain ⟨d, h1, h2, h3⟩ := gj_det n A n
  have e := (gj_det_eq n A).1
  have hr := gj_red n n A n
  constructor
  · intro hl
    -- A's rows make the unit matrix
    obtain ⟨X, hX⟩ := (gj_of n n A n).1
    intro h0
    have : det n (mm n X A) = 1 := by
      rw [← det_one n]
      apply det_congr; intro i j hi hj
      rw [← hX i j hi hj, hr.unit hl i j hi hj]
    rw [det_mm, h0, mul_zero] at this
    exact Fld.one_ne this.symm
  · intro h0
    by_cases hl : (gj n A n).2.1.length = n
    · exact hl
    · rw [h2 hl] at e
      exact absurd e.symm h0
/-- A matrix whose determinant is not 0 has an inverse. -/
theorem inv_of_det {n : Nat} {A : Nat → Nat → F} (h : det n A ≠ 0) : ∃ X : Nat → Nat → F, (∀ i j, i < n → j < n → mm n X A i j = one i j) ∧ ∀ i j, i < n → j < n → mm n A X i j = one i j := by
  have key : ∀ A : Nat → Nat → F, det n A ≠ 0 → ∃ X : Nat → Nat → F, ∀ i j, i < n → j < n → mm n X A i j = one i j := by
    intro A h
    have hl := (gj_full n A).2 h
    have hr := gj_red n n A n
    obtain ⟨X, hX⟩ := (gj_of n n A n).1
    exact ⟨X, fun i j hi hj => by rw [← hX i j hi hj, hr.unit hl i j hi hj]⟩
  obtain ⟨X, hX⟩ := key A h
  have hdX : det n X ≠ 0 := by
    intro h0
    have : det n (mm n X A) = 1 := by rw [← det_one n]; exact det_congr hX
    rw [det_mm, h0, zero_mul] at this
    exact Fld.one_ne this.symm
  obtain ⟨Y, hY⟩ := key X hdX
  refine ⟨X, hX, fun i j hi hj => ?_⟩
  -- Y = Y X A = A, so A X = Y X = 1
  have hYA : ∀ i j, i < n → j < n → Y i j = A i j := by
    intro i j hi hj
    have e1 : mm n Y (mm n X A) i j = Y i j := by
      show sm n (fun k => Y i k * mm n X A k j) = _
      rw [sm_congr (fun k hk => by rw [hX k j hk hj])]
      exact mm_one Y i hj
    rw [← e1, ← mm_assoc]
    show sm n (fun k => mm n Y X i k * A k j) = _
    rw [sm_congr (fun k hk => by rw [hY i k hi hk])]
    exact one_mm A hi j
  rw [← hY i j hi hj]
  exact sm_congr (fun k hk => by rw [hYA i k hi hk])
theorem det_of_inv {n : Nat} {A X : Nat → Nat → F} (h : ∀ i j, i < n → j < n → mm n X A i j = one i j) : det n A ≠ 0 := by
  intro h0
  have : det n (mm n X A) = 1 := by rw [← det_one n]; exact det_congr h
  rw [det_mm, h0, mul_zero] at this
  exact Fld.one_ne this.symm
end LA
