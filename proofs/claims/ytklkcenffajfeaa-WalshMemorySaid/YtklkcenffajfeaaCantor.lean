/- The Cantor basis of the field of 65536, the map of indices, traces and roots. Plain Lean. -/
import Derived.Test.YtklkcenffajfeaaField
set_option linter.unusedVariables false
set_option linter.unusedSectionVars false
namespace GP
/-- The sum of those of a list for which a bit of i is set. -/
def bsum (L : List Nat) (i : Nat) : Nat → Nat
  | 0 => 0
  | n + 1 => if i.testBit n then bsum L i n ^^^ L.getD n 0 else bsum L i n
def BL : List Nat := [1, 44234, 15374, 5694, 50562, 60718, 37196, 16402, 27800, 4312, 27250, 47360, 64952, 64308, 65336, 39198]
def IL : List Nat := [1, 18064, 26072, 25296, 22324, 17904, 21432, 7736, 31918, 20024, 26376, 49756, 31332, 40620, 4388, 21050]
/-- The element of the index i, the index of the element a. -/
def wel (i : Nat) : Nat := bsum BL i 16
def wix (a : Nat) : Nat := bsum IL a 16
theorem bsum_xor (L : List Nat) (i j : Nat) : ∀ n, bsum L (i ^^^ j) n = bsum L i n ^^^ bsum L j n := by
  intro n
  induction n with
  | zero => simp [bsum]
  | succ n ih =>
    rw [bsum, bsum, bsum, ih, Nat.testBit_xor]
    cases i.testBit n <;> cases j.testBit n <;> simp
    · ac_rfl
    · ac_rfl
    · generalize L[n]?.getD 0 = z
      calc bsum L i n ^^^ bsum L j n = (bsum L i n ^^^ bsum L j n) ^^^ (z ^^^ z) := by rw [Nat.xor_self, Nat.xor_zero]
        _ = (bsum L i n ^^^ z) ^^^ (bsum L j n ^^^ z) := by ac_rfl
theorem bsum_lt (L : List Nat) (hL : ∀ k, L.getD k 0 < 2 ^ 16) (i : Nat) : ∀ n, bsum L i n < 2 ^ 16 := by
  intro n
  induction n with
  | zero => rw [bsum]; decide
  | succ n ih => rw [bsum]; split
                 · exact Nat.xor_lt_two_pow ih (hL n)
                 · exact ih
theorem getD_lt {L : List Nat} (h : (L.all fun x => decide (x < 65536)) = true) (k : Nat) : L.getD k 0 < 2 ^ 16 := by
  rw [List.getD_eq_getElem?_getD]
  cases e : L[k]? with
  | none => simp
  | some x =>
    have := List.all_eq_true.1 h x (List.mem_of_getElem? e)
    simpa using this
theorem wel_lt (i : Nat) : wel i < 65536 := bsum_lt BL (getD_lt (by decide)) i 16
theorem wix_lt (a : Nat) : wix a < 65536 := bsum_lt IL (getD_lt (by decide)) a 16
theorem wel_xor (i j : Nat) : wel (i ^^^ j) = wel i ^^^ wel j := bsum_xor BL i j 16
theorem wix_xor (i j : Nat) : wix (i ^^^ j) = wix i ^^^ wix j := bsum_xor IL i j 16
theorem bsum_zero (L : List Nat) : ∀ n, bsum L 0 n = 0 := by
  intro n
  induction n with
  | zero => rfl
  | succ n ih => rw [bsum, Nat.zero_testBit, ih]; rfl
/-- What keeps sums is known by what it does to the powers of two. -/
theorem additive_ext {f g : Nat → Nat} (hf : ∀ i j, f (i ^^^ j) = f i ^^^ f j) (hg : ∀ i j, g (i ^^^ j) = g i ^^^ g j) :
    ∀ n, (∀ t, t < n → f (2 ^ t) = g (2 ^ t)) → ∀ i, i < 2 ^ n → f i = g i := by
  have f0 : f 0 = 0 := by have := hf 0 0; rw [Nat.xor_self] at this; rw [Nat.xor_self] at this; exact this
  have g0 : g 0 = 0 := by have := hg 0 0; rw [Nat.xor_self] at this; rw [Nat.xor_self] at this; exact this
  intro n
  induction n with
  | zero => intro _ i hi; have : i = 0 := by omega
            subst this; rw [f0, g0]
  | succ n ih =>
    intro h i hi
    by_cases hb : i.testBit n = true
    · have hlt : i ^^^ 2 ^ n < 2 ^ n := by
        apply Nat.lt_pow_two_of_testBit
        intro k hk
        rw [Nat.testBit_xor, Nat.testBit_two_pow]
        by_cases e : n = k
        · subst e; rw [hb]; simp
        · have : i.testBit k = false := Nat.testBit_lt_two_pow (Nat.lt_of_lt_of_le hi (Nat.pow_le_pow_right (by decide) (by omega)))
          simp [this, e]
      have e : i = (i ^^^ 2 ^ n) ^^^ 2 ^ n := (xor_cancel_right _ _).symm
      rw [e, hf, hg, ih (fun t ht => h t (by omega)) _ hlt, h n (by omega)]
    · have hlt : i < 2 ^ n := by
        apply Nat.lt_pow_two_of_testBit
        intro k hk
        by_cases e : n = k
        · subst e; simpa using hb
        · exact Nat.testBit_lt_two_pow (Nat.lt_of_lt_of_le hi (Nat.pow_le_pow_right (by decide) (by omega)))
      exact ih (fun t ht => h t (by omega)) i hlt
theorem range16 {P : Nat → Prop} (h : ∀ t, t ∈ List.range 16 → P t) : ∀ t, t < 16 → P t := fun t ht => h t (List.mem_range.2 ht)
theorem wix_wel : ∀ i, i < 65536 → wix (wel i) = i := by
  intro i hi
  exact additive_ext (f := fun i => wix (wel i)) (g := fun i => i) (fun i j => by rw [wel_xor, wix_xor]) (fun _ _ => rfl) 16 (by decide +kernel) i hi
theorem wel_wix : ∀ a, a < 65536 → wel (wix a) = a := by
  intro a ha
  exact additive_ext (f := fun a => wel (wix a)) (g := fun a => a) (fun i j => by rw [wix_xor, wel_xor]) (fun _ _ => rfl) 16 (by decide +kernel) a ha
/-- The map y to y*y + y. -/
def f16 (a b : Nat) : Nat := fm 65581 a b
def sy (y : Nat) : Nat := f16 y y ^^^ y
theorem f16_lt (a b : Nat) : f16 a b < 65536 := fm_lt bl65581 a b
theorem sy_xor (a b : Nat) : sy (a ^^^ b) = sy a ^^^ sy b := by
  unfold sy f16; rw [sq_fm (by decide)]; ac_rfl
theorem f16_run {a b : Nat} (ha : a < 65536) (hb : b < 65536) : f16 a b = mulf 65581 a b := (mulf_eq (by decide) ha hb).symm
theorem half_pow (t : Nat) : (2 ^ t) / 2 = if t = 0 then 0 else 2 ^ (t - 1) := by
  cases t with
  | zero => rfl
  | succ t => simp [Nat.pow_succ]
def syf (y : Nat) : Nat := mulf 65581 y y ^^^ y
theorem syf_eq {y : Nat} (hy : y < 65536) : sy y = syf y := by unfold sy syf; rw [f16_run hy hy]
theorem sy_wel : ∀ i, i < 65536 → sy (wel i) = wel (i / 2) := by
  intro i hi
  refine additive_ext (f := fun i => sy (wel i)) (g := fun i => wel (i / 2)) (fun i j => by rw [wel_xor, sy_xor]) (fun i j => by rw [Nat.xor_div_two, wel_xor]) 16 ?_ i hi
  intro t ht
  have h1 : ∀ t, t < 16 → syf (wel (2 ^ t)) = wel (2 ^ t / 2) := by decide +kernel
  show sy (wel (2 ^ t)) = _
  rw [syf_eq (wel_lt _)]
  exact h1 t ht
theorem sy_lt {y : Nat} (hy : y < 65536) : sy y < 65536 := Nat.xor_lt_two_pow (n := 16) (f16_lt y y) hy
theorem wix_sy {y : Nat} (hy : y < 65536) : wix (sy y) = wix y / 2 := by
  have := sy_wel (wix y) (wix_lt y)
  rw [wel_wix y hy] at this
  rw [this, wix_wel _ (by have := wix_lt y; omega)]
/-- The trace: the sum of sixteen squares of squares. -/
def trn (a : Nat) : Nat → Nat
  | 0 => 0
  | n + 1 => trn (f16 a a) n ^^^ a
theorem trn_xor : ∀ (n a b : Nat), trn (a ^^^ b) n = trn a n ^^^ trn b n := by
  intro n
  induction n with
  | zero => intro a b; simp [trn]
  | succ n ih =>
    intro a b
    rw [trn, trn, trn]
    have : f16 (a ^^^ b) (a ^^^ b) = f16 a a ^^^ f16 b b := sq_fm (by decide) a b
    rw [this, ih]; ac_rfl
def trf (a : Nat) : Nat → Nat
  | 0 => 0
  | n + 1 => trf (mulf 65581 a a) n ^^^ a
theorem trf_eq : ∀ (n a : Nat), a < 65536 → trn a n = trf a n := by
  intro n
  induction n with
  | zero => intro a _; rfl
  | succ n ih => intro a ha; rw [trn, trf, ih _ (f16_lt a a), f16_run ha ha]
def tr (a : Nat) : Nat := trn a 16
/-- The trace is the highest bit of the index. -/
theorem tr_wel : ∀ i, i < 65536 → tr (wel i) = if i.testBit 15 then 1 else 0 := by
  intro i hi
  refine additive_ext (f := fun i => tr (wel i)) (g := fun i => if i.testBit 15 then 1 else 0) (fun i j => by unfold tr; rw [wel_xor, trn_xor]) (fun i j => by
    rw [Nat.testBit_xor]; cases i.testBit 15 <;> cases j.testBit 15 <;> rfl) 16 ?_ i hi
  intro t ht
  have h1 : ∀ t, t < 16 → trf (wel (2 ^ t)) 16 = if (2 ^ t).testBit 15 then 1 else 0 := by decide +kernel
  show tr (wel (2 ^ t)) = _
  unfold tr
  rw [trf_eq 16 _ (wel_lt _)]
  exact h1 t ht
theorem tr_eq {a : Nat} (ha : a < 65536) : tr a = if 32768 ≤ wix a then 1 else 0 := by
  have h := tr_wel (wix a) (wix_lt a)
  rw [wel_wix a ha] at h
  rw [h]
  have hb : (wix a).testBit 15 = decide (32768 ≤ wix a) := by
    have := wix_lt a
    rw [Nat.testBit_eq_decide_div_mod_eq]
    by_cases k : 32768 ≤ wix a
    · have : wix a / 2 ^ 15 = 1 := by omega
      rw [this]; simp [k]
    · have : wix a / 2 ^ 15 = 0 := by omega
      rw [this]; simp [k]
  rw [hb]; simp
theorem tr_sq {a : Nat} (ha : a < 65536) : tr (f16 a a) = tr a := by
  have e : f16 a a = sy a ^^^ a := by unfold sy; rw [xor_cancel_right]
  have h0 : tr (sy a) = 0 := by
    rw [tr_eq (sy_lt ha), wix_sy ha, if_neg]
    have := wix_lt a
    omega
  have : tr (sy a ^^^ a) = tr (sy a) ^^^ tr a := trn_xor 16 _ _
  rw [e, this, h0, Nat.zero_xor]
/-- Subfields: a product of elements of indices below 2^k (k = 1, 2, 4, 8) has one such. -/
theorem prod_closed (k : Nat) (hk : k ≤ 16) (h : ∀ s, s < k → ∀ t, t < k → wix (mulf 65581 (wel (2 ^ s)) (wel (2 ^ t))) < 2 ^ k) :
    ∀ i j, i < 2 ^ k → j < 2 ^ k → wix (f16 (wel i) (wel j)) < 2 ^ k := by
  -- the high bits of the index of the product, as an additive function of either side
  have key : ∀ (F : Nat → Nat), (∀ i j, F (i ^^^ j) = F i ^^^ F j) → (∀ t, t < k → F (2 ^ t) < 2 ^ k) → ∀ i, i < 2 ^ k → F i < 2 ^ k := by
    intro F hF ht i hi
    have := additive_ext (f := fun i => F i >>> k) (g := fun _ => 0) (fun i j => by rw [hF, Nat.shiftRight_xor_distrib]) (fun _ _ => rfl) k (fun t htk => by
      rw [Nat.shiftRight_eq_div_pow]; exact Nat.div_eq_of_lt (ht t htk)) i hi
    rw [Nat.shiftRight_eq_div_pow] at this
    rcases Nat.div_eq_zero_iff.1 this with e | e
    · have := Nat.two_pow_pos k; omega
    · exact e
  intro i j hi hj
  have h1 : ∀ s, s < k → wix (f16 (wel (2 ^ s)) (wel j)) < 2 ^ k := by
    intro s hs
    exact key (fun j => wix (f16 (wel (2 ^ s)) (wel j))) (fun a b => by unfold f16; rw [wel_xor, fm_xor_right (by decide), wix_xor]) (fun t ht => by
      rw [f16_run (wel_lt _) (wel_lt _)]; exact h s hs t ht) j hj
  exact key (fun i => wix (f16 (wel i) (wel j))) (fun a b => by unfold f16; rw [wel_xor, fm_xor_left (by decide), wix_xor]) h1 i hi
theorem closed1 : ∀ i j, i < 2 ^ 1 → j < 2 ^ 1 → wix (f16 (wel i) (wel j)) < 2 ^ 1 := prod_closed 1 (by decide) (by decide +kernel)
theorem closed2 : ∀ i j, i < 2 ^ 2 → j < 2 ^ 2 → wix (f16 (wel i) (wel j)) < 2 ^ 2 := prod_closed 2 (by decide) (by decide +kernel)
theorem closed4 : ∀ i j, i < 2 ^ 4 → j < 2 ^ 4 → wix (f16 (wel i) (wel j)) < 2 ^ 4 := prod_closed 4 (by decide) (by decide +kernel)
theorem closed8 : ∀ i j, i < 2 ^ 8 → j < 2 ^ 8 → wix (f16 (wel i) (wel j)) < 2 ^ 8 := prod_closed 8 (by decide) (by decide +kernel)
theorem wix_one : wix 1 = 1 := by decide +kernel
/-- Powers stay below, too. -/
theorem pow_closed {k : Nat} (hk : 1 ≤ k) (h : ∀ i j, i < 2 ^ k → j < 2 ^ k → wix (f16 (wel i) (wel j)) < 2 ^ k) {i : Nat} (hi : i < 2 ^ k) : ∀ n, wix (fpow 65581 (wel i) n) < 2 ^ k := by
  intro n
  induction n with
  | zero =>
    rw [fpow_zero, pmod_one irr16 bl65581, wix_one]
    have := Nat.pow_le_pow_right (n := 2) (by decide) hk
    omega
  | succ n ih =>
    rw [fpow_succ (by decide)]
    have := h _ i ih hi
    rw [wel_wix _ (fpow_lt bl65581 _ _)] at this
    exact this
end GP
