/- Signs, sums and the transform by halves (Walsh and Hadamard), over the whole numbers and modulo 65535. -/
namespace WH
set_option linter.unusedVariables false
/-- f 0 + .. + f (n - 1). -/
def si : Nat → (Nat → Int) → Int
  | 0, _ => 0
  | n + 1, f => si n f + f n
theorem si_congr {n : Nat} {f g : Nat → Int} (h : ∀ i, i < n → f i = g i) : si n f = si n g := by
  induction n with
  | zero => rfl
  | succ n ih => rw [si, si, ih (fun i hi => h i (by omega)), h n (by omega)]
theorem si_zero (n : Nat) : si n (fun _ => 0) = 0 := by
  induction n with
  | zero => rfl
  | succ n ih => rw [si, ih]; rfl
theorem si_add (n : Nat) (f g : Nat → Int) : si n (fun i => f i + g i) = si n f + si n g := by
  induction n with
  | zero => rfl
  | succ n ih => rw [si, si, si, ih]; omega
theorem si_mul (n : Nat) (a : Int) (f : Nat → Int) : si n (fun i => a * f i) = a * si n f := by
  induction n with
  | zero => rw [si, si, Int.mul_zero]
  | succ n ih => rw [si, si, ih, Int.mul_add]
theorem si_mul_right (n : Nat) (a : Int) (f : Nat → Int) : si n (fun i => f i * a) = si n f * a := by
  rw [Int.mul_comm, ← si_mul]
  exact si_congr (fun i _ => Int.mul_comm _ _)
theorem si_neg (n : Nat) (f : Nat → Int) : si n (fun i => - f i) = - si n f := by
  induction n with
  | zero => rfl
  | succ n ih => rw [si, si, ih]; omega
theorem si_comm (n m : Nat) (f : Nat → Nat → Int) : si n (fun i => si m (f i)) = si m (fun j => si n (fun i => f i j)) := by
  induction n with
  | zero => rw [si]; exact (si_zero m).symm
  | succ n ih => rw [si, ih, ← si_add]; rfl
theorem si_append (n m : Nat) (f : Nat → Int) : si (n + m) f = si n f + si m (fun i => f (n + i)) := by
  induction m with
  | zero => rw [Nat.add_zero, si]; omega
  | succ m ih => rw [← Nat.add_assoc, si, si, ih]; omega
theorem si_one {n i : Nat} (hi : i < n) {f : Nat → Int} (h : ∀ j, j < n → j ≠ i → f j = 0) : si n f = f i := by
  induction n with
  | zero => omega
  | succ n ih =>
    rw [si]
    by_cases e : i = n
    · subst e
      have : si i f = 0 := by rw [si_congr (g := fun _ => 0) (fun j hj => h j (by omega) (by omega)), si_zero]
      omega
    · rw [ih (by omega) (fun j hj hji => h j (by omega) hji), h n (by omega) (fun e' => e e'.symm)]; omega
/-- The sum over a list. -/
def ls (f : Nat → Int) : List Nat → Int
  | [] => 0
  | x :: xs => f x + ls f xs
theorem ls_append (f : Nat → Int) : ∀ a b : List Nat, ls f (a ++ b) = ls f a + ls f b := by
  intro a
  induction a with
  | nil => intro b; exact (Int.zero_add _).symm
  | cons x xs ih => intro b; show f x + ls f (xs ++ b) = f x + ls f xs + ls f b; rw [ih]; omega
theorem ls_perm {f : Nat → Int} {a b : List Nat} (h : a.Perm b) : ls f a = ls f b := by
  induction h with
  | nil => rfl
  | cons x _ ih => show f x + _ = f x + _; rw [ih]
  | swap x y l => show f y + (f x + _) = f x + (f y + _); omega
  | trans _ _ h1 h2 => exact h1.trans h2
theorem ls_map (f : Nat → Int) (g : Nat → Nat) : ∀ a : List Nat, ls f (a.map g) = ls (fun x => f (g x)) a := by
  intro a
  induction a with
  | nil => rfl
  | cons x xs ih => show f (g x) + _ = f (g x) + _; rw [ih]
theorem ls_range (f : Nat → Int) : ∀ n, ls f (List.range n) = si n f := by
  intro n
  induction n with
  | zero => rfl
  | succ n ih =>
    rw [List.range_succ, ls_append, ih]
    show _ + (f n + 0) = _
    rw [Int.add_zero]; rfl
/-- Sums over all numbers of r bits, moved by an xor. -/
theorem si_xor {r i : Nat} (hi : i < 2 ^ r) (f : Nat → Int) : si (2 ^ r) (fun k => f (k ^^^ i)) = si (2 ^ r) f := by
  rw [← ls_range, ← ls_range, ← ls_map f (fun k => k ^^^ i)]
  have h1 : (List.range (2 ^ r)).Nodup := List.nodup_range
  have h2 : ((List.range (2 ^ r)).map (fun k => k ^^^ i)).Nodup := by
    rw [List.nodup_iff_pairwise_ne, List.pairwise_map]
    refine List.Pairwise.imp ?_ List.nodup_range
    intro a b hab e
    apply hab
    have : a ^^^ i ^^^ i = b ^^^ i ^^^ i := by rw [e]
    rwa [Nat.xor_assoc, Nat.xor_assoc, Nat.xor_self, Nat.xor_zero, Nat.xor_zero] at this
  refine ls_perm ((List.perm_ext_iff_of_nodup h2 h1).2 ?_)
  intro x
  rw [List.mem_map, List.mem_range]
  constructor
  · rintro ⟨k, hk, rfl⟩
    exact Nat.xor_lt_two_pow (List.mem_range.1 hk) hi
  · intro hx
    refine ⟨x ^^^ i, List.mem_range.2 (Nat.xor_lt_two_pow hx hi), ?_⟩
    show x ^^^ i ^^^ i = x
    rw [Nat.xor_assoc, Nat.xor_self, Nat.xor_zero]
/-! ### signs -/
/-- 1, or -1 where the number of bits below r that both have is odd. -/
def sgn : Nat → Nat → Nat → Int
  | 0, _, _ => 1
  | r + 1, i, j => (if i.testBit r && j.testBit r then -1 else 1) * sgn r i j
theorem sgn_comm (r i j : Nat) : sgn r i j = sgn r j i := by
  induction r with
  | zero => rfl
  | succ r ih => rw [sgn, sgn, ih, Bool.and_comm]
theorem sgn_xor (r i j k : Nat) : sgn r i (j ^^^ k) = sgn r i j * sgn r i k := by
  induction r with
  | zero => rfl
  | succ r ih =>
    rw [sgn, sgn, sgn, ih, Nat.testBit_xor]
    cases i.testBit r <;> cases j.testBit r <;> cases k.testBit r <;> simp [Int.neg_mul, Int.mul_neg]
theorem sgn_pm (r i j : Nat) : sgn r i j = 1 ∨ sgn r i j = -1 := by
  induction r with
  | zero => exact .inl rfl
  | succ r ih =>
    rw [sgn]
    split <;> rcases ih with h | h <;> rw [h] <;> simp
theorem sgn_zero (r i : Nat) : sgn r i 0 = 1 := by
  induction r with
  | zero => rfl
  | succ r ih => rw [sgn, ih]; simp
theorem sgn_zero' (r j : Nat) : sgn r 0 j = 1 := by rw [sgn_comm, sgn_zero]
/-- Bits from s on don't count. -/
theorem sgn_high {r i j k : Nat} (h : ∀ b, b < r → j.testBit b = k.testBit b) : sgn r i j = sgn r i k := by
  induction r with
  | zero => rfl
  | succ r ih => rw [sgn, sgn, ih (fun b hb => h b (by omega)), h r (by omega)]
theorem testBit_add_pow {s k b : Nat} (hb : b < s) : (k + 2 ^ s).testBit b = k.testBit b := by
  rw [Nat.add_comm, Nat.testBit_two_pow_add_gt (by omega)]
theorem testBit_pow_add {s k : Nat} (hk : k < 2 ^ s) : (2 ^ s + k).testBit s = true := by
  rw [Nat.testBit_two_pow_add_eq, Nat.testBit_lt_two_pow hk]; rfl
theorem mod_succ (m r : Nat) : m % 2 ^ (r + 1) = (if m.testBit r then 2 ^ r else 0) + m % 2 ^ r := by
  rw [Nat.mod_pow_succ, Nat.testBit_eq_decide_div_mod_eq]
  have : m / 2 ^ r % 2 < 2 := Nat.mod_lt _ (by decide)
  by_cases h : m / 2 ^ r % 2 = 1
  · rw [h]; simp; omega
  · have h0 : m / 2 ^ r % 2 = 0 := by omega
    rw [h0]; simp
/-- The sum of the signs. -/
theorem si_sgn (r m : Nat) : si (2 ^ r) (fun j => sgn r m j) = if m % 2 ^ r = 0 then (2 : Int) ^ r else 0 := by
  induction r with
  | zero => rw [if_pos (by omega)]; rfl
  | succ r ih =>
    rw [Nat.pow_succ, Nat.mul_two, si_append]
    have e1 : si (2 ^ r) (fun j => sgn (r + 1) m j) = si (2 ^ r) (fun j => sgn r m j) := si_congr (fun j hj => by
      rw [sgn, Nat.testBit_lt_two_pow hj, Bool.and_false]; simp)
    have e2 : si (2 ^ r) (fun j => sgn (r + 1) m (2 ^ r + j)) = (if m.testBit r then -1 else 1) * si (2 ^ r) (fun j => sgn r m j) := by
      rw [← si_mul]
      refine si_congr (fun j hj => ?_)
      rw [sgn, testBit_pow_add hj, Bool.and_true, sgn_high (j := 2 ^ r + j) (k := j) (fun b hb => by rw [Nat.add_comm, testBit_add_pow hb])]
    rw [e1, e2, ih]
    have hm : m % (2 ^ r + 2 ^ r) = (if m.testBit r then 2 ^ r else 0) + m % 2 ^ r := by
      rw [← Nat.mul_two, ← Nat.pow_succ, mod_succ]
    rw [hm]
    have hp : 0 < 2 ^ r := Nat.two_pow_pos r
    by_cases hb : m.testBit r = true
    · simp only [hb, if_true]
      rw [if_neg (show ¬ (2 ^ r + m % 2 ^ r = 0) by omega)]
      omega
    · simp only [hb, Bool.false_eq_true, if_false, Nat.zero_add]
      by_cases h0 : m % 2 ^ r = 0
      · rw [if_pos h0, if_pos h0, Int.pow_succ]; omega
      · rw [if_neg h0, if_neg h0]; rfl
/-- The transform, by its definition. -/
def tr (r : Nat) (f : Nat → Int) (i : Nat) : Int := si (2 ^ r) (fun j => sgn r i j * f j)
theorem tr_congr {r : Nat} {f g : Nat → Int} (h : ∀ i, i < 2 ^ r → f i = g i) (i : Nat) : tr r f i = tr r g i := si_congr (fun j hj => by rw [h j hj])
theorem tr_add (r : Nat) (f g : Nat → Int) (i : Nat) : tr r (fun j => f j + g j) i = tr r f i + tr r g i := by
  unfold tr; rw [← si_add]; exact si_congr (fun j _ => Int.mul_add _ _ _)
theorem tr_mul (r : Nat) (a : Int) (f : Nat → Int) (i : Nat) : tr r (fun j => a * f j) i = a * tr r f i := by
  unfold tr; rw [← si_mul]; exact si_congr (fun j _ => Int.mul_left_comm _ _ _)
/-- There and back. -/
theorem tr_tr (r : Nat) (f : Nat → Int) {i : Nat} (hi : i < 2 ^ r) : tr r (tr r f) i = 2 ^ r * f i := by
  have e : tr r (tr r f) i = si (2 ^ r) (fun k => si (2 ^ r) (fun j => sgn r (i ^^^ k) j) * f k) := by
    show si (2 ^ r) (fun j => sgn r i j * si (2 ^ r) (fun k => sgn r j k * f k)) = _
    have : ∀ j, j < 2 ^ r → sgn r i j * si (2 ^ r) (fun k => sgn r j k * f k) = si (2 ^ r) (fun k => sgn r i j * (sgn r j k * f k)) := fun j _ => (si_mul _ _ _).symm
    rw [si_congr this, si_comm]
    refine si_congr (fun k _ => ?_)
    rw [← si_mul_right]
    refine si_congr (fun j _ => ?_)
    rw [sgn_comm r (i ^^^ k) j, sgn_xor, sgn_comm r j i, Int.mul_assoc]
  rw [e, si_one hi (fun k hk hki => ?_)]
  · rw [si_sgn, Nat.xor_self, if_pos (Nat.zero_mod _)]
  · rw [si_sgn, if_neg, Int.zero_mul]
    rw [Nat.mod_eq_of_lt (Nat.xor_lt_two_pow hi hk)]
    intro h0
    apply hki
    have : i ^^^ k ^^^ k = 0 ^^^ k := by rw [h0]
    rw [Nat.xor_assoc, Nat.xor_self, Nat.xor_zero, Nat.zero_xor] at this
    exact this.symm
/-- The sums of a i * b j over i xor j. -/
def cv (r : Nat) (a b : Nat → Int) (k : Nat) : Int := si (2 ^ r) (fun i => a i * b (k ^^^ i))
theorem tr_cv (r : Nat) (a b : Nat → Int) (m : Nat) : tr r (cv r a b) m = tr r a m * tr r b m := by
  have e : tr r (cv r a b) m = si (2 ^ r) (fun i => si (2 ^ r) (fun k => sgn r m k * (a i * b (k ^^^ i)))) := by
    show si (2 ^ r) (fun k => sgn r m k * si (2 ^ r) (fun i => a i * b (k ^^^ i))) = _
    rw [si_congr (fun k _ => (si_mul _ _ _).symm), si_comm]
  rw [e]
  show _ = si (2 ^ r) (fun j => sgn r m j * a j) * tr r b m
  rw [← si_mul_right]
  refine si_congr (fun i hi => ?_)
  rw [← si_xor hi (fun k => sgn r m k * (a i * b (k ^^^ i)))]
  unfold tr
  rw [← si_mul]
  refine si_congr (fun k _ => ?_)
  have : k ^^^ i ^^^ i = k := by rw [Nat.xor_assoc, Nat.xor_self, Nat.xor_zero]
  simp only [this]
  rw [sgn_xor]
  rw [Int.mul_comm (sgn r m k), Int.mul_assoc, Int.mul_assoc, Int.mul_left_comm (sgn r m k)]
theorem cv_comm (r : Nat) (a b : Nat → Int) {k : Nat} (hk : k < 2 ^ r) : cv r a b k = cv r b a k := by
  unfold cv
  rw [← si_xor hk (fun i => a i * b (k ^^^ i))]
  refine si_congr (fun i _ => ?_)
  have : k ^^^ (i ^^^ k) = i := by rw [Nat.xor_comm i, ← Nat.xor_assoc, Nat.xor_self, Nat.zero_xor]
  simp only [this]
  rw [Int.mul_comm, Nat.xor_comm i k]
/-! ### the transform in place -/
/-- One step of it: the pairs at the distance 2^s. -/
def bt (s : Nat) (f : Nat → Int) (i : Nat) : Int := if i.testBit s then f (i - 2 ^ s) - f i else f i + f (i + 2 ^ s)
def bts : Nat → (Nat → Int) → Nat → Int
  | 0, f => f
  | s + 1, f => bt s (bts s f)
theorem bts_sum (s : Nat) (f : Nat → Int) (i : Nat) : bts s f i = si (2 ^ s) (fun k => sgn s i k * f (i - i % 2 ^ s + k)) := by
  induction s generalizing i with
  | zero =>
    show f i = si 1 (fun k => sgn 0 i k * f (i - i % 1 + k))
    rw [si, si, sgn, Nat.mod_one, Nat.sub_zero, Nat.add_zero, Int.one_mul, Int.zero_add]
  | succ s ih =>
    show bt s (bts s f) i = _
    have hp : 0 < 2 ^ s := Nat.two_pow_pos s
    have hmod : i % 2 ^ (s + 1) = (if i.testBit s then 2 ^ s else 0) + i % 2 ^ s := mod_succ i s
    have hle : i % 2 ^ (s + 1) ≤ i := Nat.mod_le _ _
    rw [Nat.pow_succ, Nat.mul_two, si_append, ← Nat.mul_two, ← Nat.pow_succ, hmod]
    have e1 : ∀ g : Nat → Int, si (2 ^ s) (fun k => sgn (s + 1) i k * g k) = si (2 ^ s) (fun k => sgn s i k * g k) := fun g => si_congr (fun k hk => by
      rw [sgn, Nat.testBit_lt_two_pow hk, Bool.and_false]; simp)
    have e2 : ∀ g : Nat → Int, si (2 ^ s) (fun k => sgn (s + 1) i (2 ^ s + k) * g k) = (if i.testBit s then -1 else 1) * si (2 ^ s) (fun k => sgn s i k * g k) := fun g => by
      rw [← si_mul]
      refine si_congr (fun k hk => ?_)
      rw [sgn, testBit_pow_add hk, Bool.and_true, sgn_high (j := 2 ^ s + k) (k := k) (fun b hb => by rw [Nat.add_comm, testBit_add_pow hb]), Int.mul_assoc]
    rw [e1 (fun k => f (i - ((if i.testBit s then 2 ^ s else 0) + i % 2 ^ s) + k)), e2 (fun k => f (i - ((if i.testBit s then 2 ^ s else 0) + i % 2 ^ s) + (2 ^ s + k)))]
    unfold bt
    by_cases hb : i.testBit s = true
    · rw [if_pos hb] at hmod
      have hge : 2 ^ s ≤ i := by omega
      simp only [hb, if_true]
      rw [ih, ih]
      have m1 : (i - 2 ^ s) % 2 ^ s = i % 2 ^ s := by
        conv => rhs; rw [show i = i - 2 ^ s + 2 ^ s by omega, Nat.add_mod_right]
      have a1 : si (2 ^ s) (fun k => sgn s (i - 2 ^ s) k * f (i - 2 ^ s - (i - 2 ^ s) % 2 ^ s + k)) = si (2 ^ s) (fun k => sgn s i k * f (i - (2 ^ s + i % 2 ^ s) + k)) := si_congr (fun k _ => by
        rw [m1, sgn_comm s (i - 2 ^ s), sgn_comm s i, sgn_high (j := i - 2 ^ s) (k := i) (fun b hb => by
          conv => rhs; rw [show i = i - 2 ^ s + 2 ^ s by omega]
          rw [testBit_add_pow hb]), show i - 2 ^ s - i % 2 ^ s = i - (2 ^ s + i % 2 ^ s) by omega])
      have a2 : si (2 ^ s) (fun k => sgn s i k * f (i - i % 2 ^ s + k)) = si (2 ^ s) (fun k => sgn s i k * f (i - (2 ^ s + i % 2 ^ s) + (2 ^ s + k))) := si_congr (fun k _ => by
        rw [show i - i % 2 ^ s + k = i - (2 ^ s + i % 2 ^ s) + (2 ^ s + k) by omega])
      rw [a1, a2]; omega
    · simp only [hb, Bool.false_eq_true, if_false, Nat.zero_add, Int.one_mul]
      rw [ih, ih]
      have m1 : (i + 2 ^ s) % 2 ^ s = i % 2 ^ s := Nat.add_mod_right _ _
      have a2 : si (2 ^ s) (fun k => sgn s (i + 2 ^ s) k * f (i + 2 ^ s - (i + 2 ^ s) % 2 ^ s + k)) = si (2 ^ s) (fun k => sgn s i k * f (i - i % 2 ^ s + (2 ^ s + k))) := si_congr (fun k _ => by
        have hm := Nat.mod_le i (2 ^ s)
        rw [m1, sgn_comm s (i + 2 ^ s), sgn_comm s i, sgn_high (j := i + 2 ^ s) (k := i) (fun b hb => testBit_add_pow hb), show i + 2 ^ s - i % 2 ^ s + k = i - i % 2 ^ s + (2 ^ s + k) by omega])
      rw [a2]
theorem bts_tr {r i : Nat} (hi : i < 2 ^ r) (f : Nat → Int) : bts r f i = tr r f i := by
  rw [bts_sum, Nat.mod_eq_of_lt hi, Nat.sub_self]
  exact si_congr (fun k _ => by rw [Nat.zero_add])
/-- By halves: the low half's transform and the high half's. -/
theorem tr_low {r i : Nat} (hi : i < 2 ^ r) (f : Nat → Int) : tr (r + 1) f i = tr r f i + tr r (fun k => f (2 ^ r + k)) i := by
  unfold tr
  rw [Nat.pow_succ, Nat.mul_two, si_append]
  congr 1
  · exact si_congr (fun k hk => by rw [sgn, Nat.testBit_lt_two_pow hk, Bool.and_false]; simp)
  · exact si_congr (fun k hk => by rw [sgn, Nat.testBit_lt_two_pow hi, Bool.false_and, sgn_high (j := 2 ^ r + k) (k := k) (fun b hb => by rw [Nat.add_comm, testBit_add_pow hb])]; simp)
theorem tr_high {r i : Nat} (hi : i < 2 ^ r) (f : Nat → Int) : tr (r + 1) f (2 ^ r + i) = tr r f i - tr r (fun k => f (2 ^ r + k)) i := by
  unfold tr
  have hs : ∀ k, sgn r (2 ^ r + i) k = sgn r i k := fun k => by
    rw [sgn_comm r (2 ^ r + i), sgn_comm r i, sgn_high (j := 2 ^ r + i) (k := i) (fun b hb => by rw [Nat.add_comm, testBit_add_pow hb])]
  rw [Nat.pow_succ, Nat.mul_two, si_append, Int.sub_eq_add_neg, ← si_neg]
  congr 1
  · exact si_congr (fun k hk => by rw [sgn, Nat.testBit_lt_two_pow hk, Bool.and_false, hs]; simp)
  · exact si_congr (fun k hk => by
      rw [sgn, testBit_pow_add hi, testBit_pow_add hk, hs, sgn_high (j := 2 ^ r + k) (k := k) (fun b hb => by rw [Nat.add_comm, testBit_add_pow hb])]
      simp [Int.neg_mul])
/-! ### modulo 65535 -/
def md (x : Int) : Int := x % 65535
theorem md_add (x y : Int) : md (md x + md y) = md (x + y) := by unfold md; omega
theorem md_sub (x y : Int) : md (md x - md y) = md (x - y) := by unfold md; omega
theorem md_md (x : Int) : md (md x) = md x := by unfold md; omega
theorem md_mul (x y : Int) : md (md x * md y) = md (x * y) := by unfold md; rw [← Int.mul_emod]
theorem md_mul_left (x y : Int) : md (x * md y) = md (x * y) := by unfold md; rw [Int.mul_emod, Int.emod_emod_of_dvd _ (Int.dvd_refl _), ← Int.mul_emod]
theorem md_ge (x : Int) : 0 ≤ md x := by unfold md; omega
theorem md_lt (x : Int) : md x < 65535 := by unfold md; omega
theorem md_of {x : Int} (h0 : 0 ≤ x) (h1 : x < 65535) : md x = x := by unfold md; omega
theorem md_si {n : Nat} {f g : Nat → Int} (h : ∀ i, i < n → md (f i) = md (g i)) : md (si n f) = md (si n g) := by
  induction n with
  | zero => rfl
  | succ n ih => rw [si, si, ← md_add, ih (fun i hi => h i (by omega)), h n (by omega), md_add]
theorem md_tr {r : Nat} {f g : Nat → Int} (h : ∀ i, i < 2 ^ r → md (f i) = md (g i)) (i : Nat) : md (tr r f i) = md (tr r g i) :=
  md_si (fun j hj => by rw [← md_mul_left, h j hj, md_mul_left])
theorem md_pow (r : Nat) (h : r ≤ 16) (x : Int) : md (2 ^ (16 - r) * (2 ^ r * x)) = md x := by
  have e : (2 : Int) ^ (16 - r) * 2 ^ r = 65536 := by
    rw [← Int.pow_add, Nat.sub_add_cancel h]; decide
  rw [← Int.mul_assoc, e]
  unfold md; omega
end WH
