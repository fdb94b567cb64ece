/- Texts of polynomials over GF(2): what they are, that they are unlike, and what two readers of them answer. -/


namespace RT
set_option linter.unusedVariables false
/-- The decimal digits of a number below 100. -/
def dig (i : Nat) : List UInt8 := if i < 10 then [(48 + i).toUInt8] else [(48 + i / 10).toUInt8, (48 + i % 10).toUInt8]
/-- x^i. -/
def term (i : Nat) : List UInt8 := if i = 0 then [49] else if i = 1 then [120] else 120 :: 94 :: dig i
/-- The terms of n below x^k, from the highest down. -/
def terms (n : Nat) : Nat → List (List UInt8)
  | 0 => []
  | k + 1 => if n.testBit k then term k :: terms n k else terms n k
/-- One after another, with a plus between. -/
def plus : List (List UInt8) → List UInt8
  | [] => []
  | [t] => t
  | t :: u :: r => t ++ 43 :: plus (u :: r)
def text (n : Nat) : List UInt8 := if n = 0 then [48] else plus (terms n 64)
/-- What stands ahead of the first plus; what stands behind it. -/
def seg (s : List UInt8) : List UInt8 := s.takeWhile (· != 43)
def rst (s : List UInt8) : List UInt8 := (s.dropWhile (· != 43)).drop 1
theorem term_ok : ∀ i : Fin 64, term i.val ≠ [] ∧ (∀ c ∈ term i.val, c ≠ 43) := by decide +kernel
theorem term_ne {i : Nat} (h : i < 64) : term i ≠ [] := (term_ok ⟨i, h⟩).1
theorem term_no {i : Nat} (h : i < 64) : ∀ c ∈ term i, c ≠ 43 := (term_ok ⟨i, h⟩).2
theorem term_inj0 : ∀ i j : Fin 64, term i.val = term j.val → i = j := by decide +kernel
theorem term_inj {i j : Nat} (hi : i < 64) (hj : j < 64) (h : term i = term j) : i = j := by
  have := term_inj0 ⟨i, hi⟩ ⟨j, hj⟩ h
  exact congrArg Fin.val this
theorem seg_app {t r : List UInt8} (h : ∀ c ∈ t, c ≠ 43) : seg (t ++ 43 :: r) = t ∧ rst (t ++ 43 :: r) = r := by
  unfold seg rst
  have hb : ∀ c ∈ t, (c != 43) = true := fun c hc => by simpa using h c hc
  rw [List.takeWhile_append_of_pos hb, List.dropWhile_append_of_pos hb]
  simp
theorem seg_all {t : List UInt8} (h : ∀ c ∈ t, c ≠ 43) : seg t = t ∧ rst t = [] := by
  unfold seg rst
  have hb : ∀ c ∈ t, (c != 43) = true := fun c hc => by simpa using h c hc
  have h1 := List.takeWhile_append_of_pos (l₂ := []) hb
  have h2 := List.dropWhile_append_of_pos (l₂ := []) hb
  rw [List.append_nil] at h1 h2
  rw [h1, h2]
  simp
theorem terms_mem {n k : Nat} {t : List UInt8} (h : t ∈ terms n k) : ∃ j, j < k ∧ n.testBit j = true ∧ t = term j := by
  induction k with
  | zero => cases h
  | succ k ih =>
    unfold terms at h
    split at h
    · rename_i hb
      rcases List.mem_cons.1 h with rfl | h
      · exact ⟨k, by omega, hb, rfl⟩
      · obtain ⟨j, h1, h2, h3⟩ := ih h; exact ⟨j, by omega, h2, h3⟩
    · obtain ⟨j, h1, h2, h3⟩ := ih h; exact ⟨j, by omega, h2, h3⟩
theorem terms_mod (n : Nat) : ∀ k, terms (n % 2 ^ k) k = terms n k ∧ ∀ m, (∀ j, j < k → m.testBit j = n.testBit j) → terms m k = terms n k := by
  intro k
  have key : ∀ k m, (∀ j, j < k → m.testBit j = n.testBit j) → terms m k = terms n k := by
    intro k
    induction k with
    | zero => intro m _; rfl
    | succ k ih =>
      intro m h
      unfold terms
      rw [h k (by omega), ih m (fun j hj => h j (by omega))]
  exact ⟨key k _ (fun j hj => by rw [Nat.testBit_mod_two_pow]; simp [hj]), key k⟩
/-- The reader that takes the terms off the front, from x^(k-1) down. -/
def take : Nat → List UInt8 → Option Nat
  | 0, s => if s = [] then some 0 else none
  | k + 1, s => if seg s = term k then (if s = term k then (take k []).map (· + 2 ^ k) else if rst s = [] then none else (take k (rst s)).map (· + 2 ^ k)) else take k s
theorem plus_seg {n k : Nat} (hk : k ≤ 64) (hne : terms n k ≠ []) : ∃ j, j < k ∧ n.testBit j = true ∧ seg (plus (terms n k)) = term j ∧ (∀ i, j < i → i < k → n.testBit i = false) := by
  induction k with
  | zero => exact absurd rfl hne
  | succ k ih =>
    by_cases hb : n.testBit k = true
    · refine ⟨k, by omega, hb, ?_, fun i h1 h2 => by omega⟩
      unfold terms
      rw [if_pos hb]
      cases hr : terms n k with
      | nil => exact (seg_all (term_no (by omega))).1
      | cons u r => exact (seg_app (term_no (by omega))).1
    · have he : terms n (k + 1) = terms n k := by rw [terms, if_neg hb]
      rw [he] at hne ⊢
      obtain ⟨j, h1, h2, h3, h4⟩ := ih (by omega) hne
      refine ⟨j, by omega, h2, h3, fun i hi1 hi2 => ?_⟩
      by_cases hik : i = k
      · subst hik; simpa using hb
      · exact h4 i hi1 (by omega)
theorem plus_nil {l : List (List UInt8)} (h : ∀ t ∈ l, t ≠ []) : plus l = [] ↔ l = [] := by
  match l with
  | [] => simp [plus]
  | [t] => simp only [plus]; exact ⟨fun e => absurd e (h t (by simp)), fun e => by simp at e⟩
  | t :: u :: r => simp [plus]
theorem terms_nonempty {n k : Nat} (hk : k ≤ 64) : ∀ t ∈ terms n k, t ≠ [] := by
  intro t ht
  obtain ⟨j, h1, _, rfl⟩ := terms_mem ht
  exact term_ne (by omega)
theorem take_nil : ∀ k, k ≤ 64 → take k [] = some 0 := by
  intro k
  induction k with
  | zero => intro _; rfl
  | succ k ih =>
    intro hk
    unfold take
    rw [if_neg (fun h => term_ne (i := k) (by omega) h.symm)]
    exact ih (by omega)
/-- The reader reads a text back. -/
theorem take_text : ∀ k, k ≤ 64 → ∀ n, n < 2 ^ k → take k (plus (terms n k)) = some n := by
  intro k
  induction k with
  | zero => intro _ n hn; have : n = 0 := by simpa using hn
            subst this; rfl
  | succ k ih =>
    intro hk n hn
    by_cases hb : n.testBit k = true
    · have hlo : n = n % 2 ^ k + 2 ^ k := by
        have h1 : n / 2 ^ k = 1 := by
          have h2 : n / 2 ^ k < 2 := Nat.div_lt_of_lt_mul (by rw [← Nat.pow_succ]; exact hn)
          have h3 : n / 2 ^ k % 2 = 1 := by
            rw [Nat.testBit_eq_decide_div_mod_eq] at hb; exact of_decide_eq_true hb
          generalize n / 2 ^ k = q at h2 h3
          clear hn
          omega
        have := Nat.div_add_mod n (2 ^ k)
        rw [h1] at this; omega
      have hm : terms (n % 2 ^ k) k = terms n k := (terms_mod n k).1
      have hi := ih (by omega) (n % 2 ^ k) (Nat.mod_lt _ (Nat.two_pow_pos k))
      rw [hm] at hi
      have ht : terms n (k + 1) = term k :: terms n k := by rw [terms, if_pos hb]
      rw [ht]
      cases hr : terms n k with
      | nil =>
        rw [hr] at hi
        show take (k + 1) (term k) = _
        unfold take
        rw [if_pos (seg_all (term_no (by omega))).1, if_pos rfl]
        rw [show plus [] = [] from rfl] at hi
        rw [hi]
        exact congrArg some hlo.symm
      | cons u r =>
        rw [hr] at hi
        show take (k + 1) (term k ++ 43 :: plus (u :: r)) = _
        obtain ⟨s1, s2⟩ := seg_app (t := term k) (r := plus (u :: r)) (term_no (by omega))
        have hne : plus (u :: r) ≠ [] := fun e => by
          have := (plus_nil (l := u :: r) (by rw [← hr]; exact terms_nonempty (by omega))).1 e
          cases this
        unfold take
        rw [if_pos s1, if_neg (fun e => by have := congrArg List.length e; simp at this), s2, if_neg hne, hi]
        exact congrArg some hlo.symm
    · have ht : terms n (k + 1) = terms n k := by rw [terms, if_neg hb]
      have hnk : n < 2 ^ k := by
        have h3 : ¬ n / 2 ^ k % 2 = 1 := by
          rw [Nat.testBit_eq_decide_div_mod_eq] at hb; simpa using hb
        have h2 : n / 2 ^ k < 2 := Nat.div_lt_of_lt_mul (by rw [← Nat.pow_succ]; exact hn)
        have h4 : n / 2 ^ k = 0 := by
          generalize n / 2 ^ k = q at h2 h3
          clear hn
          omega
        exact (Nat.div_eq_zero_iff.1 h4).resolve_left (by have := Nat.two_pow_pos k; omega)
      rw [ht]
      unfold take
      have hs : seg (plus (terms n k)) ≠ term k := by
        by_cases hne : terms n k = []
        · rw [hne]; exact fun e => term_ne (i := k) (by omega) e.symm
        · obtain ⟨j, h1, _, h3, _⟩ := plus_seg (by omega) hne
          rw [h3]
          intro e
          have := term_inj (by omega) (by omega) e
          omega
      rw [if_neg hs]
      exact ih (by omega) n hnk
/-- What the reader takes is a text. -/
theorem take_only : ∀ k, k ≤ 64 → ∀ s n, take k s = some n → n < 2 ^ k ∧ s = plus (terms n k) := by
  intro k
  induction k with
  | zero =>
    intro _ s n h
    unfold take at h
    split at h
    · rename_i hs
      obtain rfl := Option.some.inj h
      exact ⟨by decide, hs⟩
    · cases h
  | succ k ih =>
    intro hk s n h
    unfold take at h
    have hbit : ∀ m, m < 2 ^ k → (m + 2 ^ k).testBit k = true ∧ ∀ j, j < k → (m + 2 ^ k).testBit j = m.testBit j := by
      intro m hm
      rw [Nat.add_comm]
      refine ⟨?_, fun j hj => Nat.testBit_two_pow_add_gt hj m⟩
      rw [Nat.testBit_two_pow_add_eq, Nat.testBit_lt_two_pow hm]; rfl
    split at h
    · rename_i hseg
      split at h
      · rename_i hs
        rw [take_nil k (by omega)] at h
        obtain rfl : 0 + 2 ^ k = n := by simpa using h
        obtain ⟨b1, b2⟩ := hbit 0 (Nat.two_pow_pos k)
        have h0 : terms (0 + 2 ^ k) k = [] := by
          rw [(terms_mod 0 k).2 _ b2]
          have : ∀ k, terms 0 k = [] := by
            intro k; induction k with
            | zero => rfl
            | succ k ih => unfold terms; simpa using ih
          exact this k
        refine ⟨by rw [Nat.pow_succ]; have := Nat.two_pow_pos k; omega, ?_⟩
        rw [terms, if_pos b1, h0]
        exact hs
      · rename_i hs
        split at h
        · cases h
        · rename_i hr
          obtain ⟨m, hm, rfl⟩ : ∃ m, take k (rst s) = some m ∧ m + 2 ^ k = n := by
            cases hh : take k (rst s) with
            | none => rw [hh] at h; cases h
            | some m => rw [hh] at h; exact ⟨m, rfl, by simpa using h⟩
          obtain ⟨h1, h2⟩ := ih (by omega) (rst s) m hm
          obtain ⟨b1, b2⟩ := hbit m h1
          refine ⟨by rw [Nat.pow_succ]; omega, ?_⟩
          rw [terms, if_pos b1, (terms_mod m k).2 _ b2]
          have hne : terms m k ≠ [] := fun e => hr (by rw [h2, e]; rfl)
          have hsplit : s = seg s ++ s.dropWhile (· != 43) := (List.takeWhile_append_dropWhile ..).symm
          have hdw : s.dropWhile (· != 43) = 43 :: rst s := by
            unfold rst
            cases hd : s.dropWhile (· != 43) with
            | nil => exact absurd (by unfold rst; rw [hd]; rfl) hr
            | cons c r =>
              have : (c != 43) = false := by
                have := List.head?_dropWhile_not (fun c : UInt8 => c != 43) s
                rw [hd] at this
                simpa using this
              have hc : c = 43 := by simpa using this
              subst hc; rfl
          rw [hdw, hseg] at hsplit
          cases ht : terms m k with
          | nil => exact absurd ht hne
          | cons u r => rw [hsplit, h2, ht]; rfl
    · rename_i hseg
      obtain ⟨h1, h2⟩ := ih (by omega) s n h
      have hb : n.testBit k = false := Nat.testBit_lt_two_pow h1
      refine ⟨by rw [Nat.pow_succ]; omega, ?_⟩
      rw [terms, if_neg (by rw [hb]; decide)]
      exact h2
/-! The other reader: one letter after another, loosely. -/
structure St where
  p : Nat
  at' : Nat
  inX : Bool
  inN : Bool
def fin (q : St) : St := ⟨if q.inN && decide (q.at' < 64) then q.p ||| 2 ^ q.at' else if q.inX && !q.inN then q.p ||| 2 else q.p, 0, false, false⟩
def step (q : St) (r : Int) : St :=
  if r = 120 then { q with inX := true } else
  if r = 94 ∧ q.inX = true then { q with inN := true } else
  if r = 43 then fin q else
  if 48 ≤ r ∧ r ≤ 57 ∧ q.inN = true then { q with at' := min (q.at' * 10 + (r - 48).toNat) 1000 } else
  if r = 49 then { q with p := q.p ||| 1 } else q
def run (q : St) (s : List UInt8) : St := s.foldl (fun q c => step q (c.toNat : Int)) q
theorem run_app (q : St) (s t : List UInt8) : run q (s ++ t) = run (run q s) t := by unfold run; rw [List.foldl_append]
def st0 (p : Nat) : St := ⟨p, 0, false, false⟩
/-- A term read from a fresh start, then ended, adds its power. -/
theorem run_shape : ∀ i : Fin 64, (term i.val).foldl (fun (q : Bool × Nat × Bool × Bool) (c : UInt8) =>
    let r := (c.toNat : Int)
    if r = 120 then (q.1, q.2.1, true, q.2.2.2) else
    if r = 94 ∧ q.2.2.1 = true then (q.1, q.2.1, q.2.2.1, true) else
    if r = 43 then (q.1, 0, false, false) else
    if 48 ≤ r ∧ r ≤ 57 ∧ q.2.2.2 = true then (q.1, min (q.2.1 * 10 + (r - 48).toNat) 1000, q.2.2.1, q.2.2.2) else
    if r = 49 then (true, q.2.1, q.2.2.1, q.2.2.2) else q) (false, 0, false, false) = (if i.val = 0 then (true, 0, false, false) else if i.val = 1 then (false, 0, true, false) else (false, i.val, true, true)) := by decide +kernel
def mapS (p : Nat) (q : Bool × Nat × Bool × Bool) : St := ⟨if q.1 = true then p ||| 1 else p, q.2.1, q.2.2.1, q.2.2.2⟩
def stepB (q : Bool × Nat × Bool × Bool) (c : UInt8) : Bool × Nat × Bool × Bool :=
    let r := (c.toNat : Int)
    if r = 120 then (q.1, q.2.1, true, q.2.2.2) else
    if r = 94 ∧ q.2.2.1 = true then (q.1, q.2.1, q.2.2.1, true) else
    if r = 43 then (q.1, 0, false, false) else
    if 48 ≤ r ∧ r ≤ 57 ∧ q.2.2.2 = true then (q.1, min (q.2.1 * 10 + (r - 48).toNat) 1000, q.2.2.1, q.2.2.2) else
    if r = 49 then (true, q.2.1, q.2.2.1, q.2.2.2) else q
theorem step_map (p : Nat) (q : Bool × Nat × Bool × Bool) (c : UInt8) (h : c ≠ 43) : step (mapS p q) (c.toNat : Int) = mapS p (stepB q c) := by
  have h43 : ¬ ((c.toNat : Int) = 43) := fun e => h (by
    have e2 : c.toNat = 43 := by omega
    exact UInt8.toNat_inj.1 e2)
  obtain ⟨b, a, x, n⟩ := q
  unfold step stepB mapS
  simp only [if_neg h43]
  by_cases h1 : (c.toNat : Int) = 120
  · simp only [if_pos h1]
  · simp only [if_neg h1]
    by_cases h2 : (c.toNat : Int) = 94 ∧ x = true
    · simp only [if_pos h2]
    · simp only [if_neg h2]
      by_cases h3 : 48 ≤ (c.toNat : Int) ∧ (c.toNat : Int) ≤ 57 ∧ n = true
      · simp only [if_pos h3]
      · simp only [if_neg h3]
        by_cases h4 : (c.toNat : Int) = 49
        · simp only [if_pos h4]
          cases b
          · simp
          · simp [Nat.or_assoc]
        · simp only [if_neg h4]
theorem run_map (p : Nat) : ∀ (s : List UInt8), (∀ c ∈ s, c ≠ 43) → ∀ q, run (mapS p q) s = mapS p (s.foldl stepB q)
  | [], _, q => rfl
  | c :: s, h, q => by
    show run (step (mapS p q) (c.toNat : Int)) s = _
    rw [step_map p q c (h c (by simp))]
    exact run_map p s (fun d hd => h d (by simp [hd])) _
theorem run_term (p : Nat) {i : Nat} (hi : i < 64) : fin (run (st0 p) (term i)) = st0 (p ||| 2 ^ i) := by
  have h0 : st0 p = mapS p (false, 0, false, false) := rfl
  have hs : (term i).foldl stepB (false, 0, false, false) = (if i = 0 then (true, 0, false, false) else if i = 1 then (false, 0, true, false) else (false, i, true, true)) := run_shape ⟨i, hi⟩
  rw [h0, run_map p _ (term_no hi), hs]
  by_cases h1 : i = 0
  · subst h1; rfl
  · rw [if_neg h1]
    by_cases h2 : i = 1
    · subst h2; rfl
    · rw [if_neg h2]
      unfold mapS fin st0
      simp [hi]
theorem run_terms (n : Nat) : ∀ k, k ≤ 64 → ∀ p, fin (run (st0 p) (plus (terms n k))) = st0 (p ||| n % 2 ^ k) := by
  intro k
  induction k with
  | zero => intro _ p; rw [Nat.pow_zero, Nat.mod_one, Nat.or_zero]; rfl
  | succ k ih =>
    intro hk p
    have hmod : n % 2 ^ (k + 1) = if n.testBit k then 2 ^ k ||| n % 2 ^ k else n % 2 ^ k := by
      refine Nat.eq_of_testBit_eq (fun i => ?_)
      by_cases hb : n.testBit k = true
      · rw [if_pos hb, Nat.testBit_or, Nat.testBit_mod_two_pow, Nat.testBit_mod_two_pow, Nat.testBit_two_pow]
        by_cases hik : i = k
        · subst hik; simp [hb]
        · have : (i < k + 1) = (i < k) := by apply propext; omega
          simp [this]
          intro e; exact absurd e.symm hik
      · rw [if_neg hb, Nat.testBit_mod_two_pow, Nat.testBit_mod_two_pow]
        by_cases hik : i = k
        · subst hik; simp [hb]
        · have : (i < k + 1) = (i < k) := by apply propext; omega
          simp [this]
    rw [hmod]
    by_cases hb : n.testBit k = true
    · rw [if_pos hb]
      have ht : terms n (k + 1) = term k :: terms n k := by rw [terms, if_pos hb]
      rw [ht]
      have hi := ih (by omega) (p ||| 2 ^ k)
      cases hr : terms n k with
      | nil =>
        rw [hr] at hi
        show fin (run (st0 p) (term k)) = _
        rw [run_term p (by omega), ← Nat.or_assoc, ← hi]
        rfl
      | cons u r =>
        rw [hr] at hi
        show fin (run (st0 p) (term k ++ 43 :: plus (u :: r))) = _
        rw [run_app]
        have hs : run (run (st0 p) (term k)) (43 :: plus (u :: r)) = run (fin (run (st0 p) (term k))) (plus (u :: r)) := by
          show run (step (run (st0 p) (term k)) 43) _ = _
          rfl
        rw [hs, run_term p (by omega), hi, Nat.or_assoc]
    · rw [if_neg hb, show terms n (k + 1) = terms n k by rw [terms, if_neg hb]]
      exact ih (by omega) p
/-- The loose reader reads a text back. -/
theorem loose_text {n : Nat} (hn : n < 2 ^ 64) : (fin (run (st0 0) (text n))).p = n := by
  unfold text
  by_cases h : n = 0
  · subst h; rfl
  · rw [if_neg h, run_terms n 64 (Nat.le_refl _), Nat.mod_eq_of_lt hn]
    exact Nat.zero_or n
theorem term_len : ∀ i : Fin 64, (term i.val).length ≤ 4 := by decide +kernel
theorem plus_len : ∀ l : List (List UInt8), (∀ t ∈ l, t.length ≤ 4) → (plus l).length ≤ 5 * l.length
  | [], _ => by simp [plus]
  | [t], h => by have := h t (by simp); simp only [plus, List.length_singleton]; omega
  | t :: u :: r, h => by
    have h1 := h t (by simp)
    have h2 := plus_len (u :: r) (fun x hx => h x (by simp [hx]))
    simp only [plus, List.length_append, List.length_cons] at h2 ⊢
    omega
theorem terms_len (n : Nat) : ∀ k, (terms n k).length ≤ k
  | 0 => Nat.le_refl _
  | k + 1 => by
    have := terms_len n k
    unfold terms
    split
    · simp only [List.length_cons]; omega
    · omega
theorem text_len (n : Nat) : (text n).length ≤ 320 := by
  unfold text
  split
  · decide
  · have h1 := plus_len (terms n 64) (fun t ht => by
      obtain ⟨j, hj, _, rfl⟩ := terms_mem ht
      exact term_len ⟨j, hj⟩)
    have h2 := terms_len n 64
    omega
/-- What the document's reader answers. -/
def parse (s : List UInt8) : Option Nat := if s = [48] then some 0 else if s = [] then none else take 64 s
theorem parse_text {n : Nat} (hn : n < 2 ^ 64) : parse (text n) = some n := by
  unfold parse text
  by_cases h : n = 0
  · subst h; rfl
  · rw [if_neg h]
    have h1 := take_text 64 (Nat.le_refl _) n hn
    have hne : terms n 64 ≠ [] := fun e => by
      rw [e] at h1
      have : some 0 = some n := h1
      exact h (Option.some.inj this).symm
    obtain ⟨j, hj, _, hs, _⟩ := plus_seg (Nat.le_refl 64) hne
    rw [if_neg (fun e => ?_), if_neg (fun e => ?_)]
    · exact h1
    · rw [e] at h1
      have : some 0 = some n := h1
      exact h (Option.some.inj this).symm
    · rw [e] at hs
      have : ∀ j : Fin 64, ¬ seg [48] = term j.val := by decide +kernel
      exact this ⟨j, hj⟩ hs
theorem parse_only {s : List UInt8} {n : Nat} (h : parse s = some n) : n < 2 ^ 64 ∧ s = text n := by
  unfold parse at h
  split at h
  · rename_i hs
    obtain rfl := Option.some.inj h
    exact ⟨by decide, hs⟩
  · split at h
    · cases h
    · rename_i h0
      obtain ⟨h1, h2⟩ := take_only 64 (Nat.le_refl _) s n h
      refine ⟨h1, ?_⟩
      unfold text
      by_cases hn : n = 0
      · subst hn
        have : ∀ k, terms 0 k = [] := by
          intro k; induction k with
          | zero => rfl
          | succ k ih => unfold terms; simpa using ih
        rw [this 64] at h2
        exact absurd h2 h0
      · rw [if_neg hn]; exact h2
/-- The two readers answer alike. -/
theorem parse_is {s : List UInt8} {p : Nat} (hp : p < 2 ^ 64) (h : ∀ n, n < 2 ^ 64 → s = text n → p = n) : (if text p = s then some p else none) = parse s := by
  by_cases e : text p = s
  · rw [if_pos e, ← e]; exact (parse_text hp).symm
  · rw [if_neg e]
    cases hh : parse s with
    | none => rfl
    | some n =>
      obtain ⟨h1, h2⟩ := parse_only hh
      have := h n h1 h2
      subst this
      exact absurd h2.symm e
theorem parse_long {s : List UInt8} (h : 320 < s.length) : parse s = none := by
  cases hh : parse s with
  | none => rfl
  | some n =>
    obtain ⟨h1, h2⟩ := parse_only hh
    have := text_len n
    rw [← h2] at this
    omega
end RT
