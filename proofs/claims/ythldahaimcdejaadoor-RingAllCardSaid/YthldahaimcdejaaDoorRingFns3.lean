/- What the printed functions of the ring compute, third part: Rabin's test, orders, products, degrees; Bezout. -/
import Derived.Test.YthldahaimcdejaaDoorRingFns2

namespace Go.Proofs.YthldahaimcdejaaDoor.R
open Go.RowKit Go.Proofs.YthldahaimcdejaaDoorW.PrintWords Go.Proofs.YthldahaimcdejaaDoorW.PrintLast Go.Proofs.YthldahaimcdejaaDoorW.PrintMore Go.Proofs.YthldahaimcdejaaDoor.A GP
set_option linter.unusedVariables false
set_option linter.unusedSimpArgs false

/-- What the loop of Irreducible asks from round i to round m. -/
def RabinFrom (p i m : Nat) : Prop := ∀ j, i ≤ j → j ≤ m → pgcd p (pmod (pp 2 (2 ^ j)) p ^^^ pmod 2 p) = 1
/-- Rabin's test. -/
def Rabin (p : Nat) : Prop := RabinFrom p 1 ((bl p - 1) / 2)
theorem tdiv2 (d : Nat) : Int.tdiv ((d : Nat) : Int) 2 = ((d / 2 : Nat) : Int) := by
  rw [Int.tdiv_eq_ediv_of_nonneg (by omega)]; omega
theorem Irreducible_l0 {p : Nat} (hp : 2 ≤ bl p) (hp2 : bl p ≤ 33) : ∀ (n i : Nat), 1 ≤ i → (bl p - 1) / 2 + 1 - i ≤ n →
    (RabinFrom p i ((bl p - 1) / 2) → Ev (fun k => ring_Irreducible.l0 k p ((bl p : Int) - 1) (pmod 2 p : Nat) (pmod (pp 2 (2 ^ (i - 1))) p : Nat) i) (true, (0 : Int))) ∧
    (¬ RabinFrom p i ((bl p - 1) / 2) → Ev (fun k => ring_Irreducible.l0 k p ((bl p : Int) - 1) (pmod 2 p : Nat) (pmod (pp 2 (2 ^ (i - 1))) p : Nat) i) (false, (0 : Int))) := by
  have hp0 : p ≠ 0 := bl_pos.1 (by omega)
  have hp64 : p < 2 ^ 64 := bl_le.1 (by omega)
  have e1 : wrap64 (Int.tdiv ((bl p : Int) - 1) 2) = (((bl p - 1) / 2 : Nat) : Int) := by
    rw [show (bl p : Int) - 1 = ((bl p - 1 : Nat) : Int) by omega, tdiv2, wrap64_id (by omega) (by omega)]
  intro n
  induction n with
  | zero =>
    intro i hi hn
    have hend : Ev (fun k => ring_Irreducible.l0 k p ((bl p : Int) - 1) (pmod 2 p : Nat) (pmod (pp 2 (2 ^ (i - 1))) p : Nat) i) (true, (0 : Int)) := by
      refine Ev.step (fun k => ring_Irreducible.l0.eq_2 _ _ _ _ _ k) ?_
      rw [e1]
      simp only [if_neg (show ¬ ((i : Nat) : Int) ≤ (((bl p - 1) / 2 : Nat) : Int) by omega)]
      exact Ev.now _
    exact ⟨fun _ => hend, fun h => absurd (fun j h1 h2 => by omega) h⟩
  | succ n ih =>
    intro i hi hn
    by_cases hle : i ≤ (bl p - 1) / 2
    · have hy : pmod (cl (pmod (pp 2 (2 ^ (i - 1))) p) (pmod (pp 2 (2 ^ (i - 1))) p)) p = pmod (pp 2 (2 ^ i)) p := by
        rw [pmod_cl_left hp0, pmod_cl_right hp0, ← pp_two, ← pp_mul, ← Nat.pow_succ, Nat.succ_eq_add_one, Nat.sub_add_cancel hi]
      have stp : ∀ r, Ev (fun k => (ring_Gcd.f k p (pmod (pp 2 (2 ^ i)) p ^^^ pmod 2 p : Nat)).bind fun t => (if t = 1 then (ring_Irreducible.l0 k p ((bl p : Int) - 1) (pmod 2 p : Nat) (pmod (pp 2 (2 ^ i)) p : Nat) ((i + 1 : Nat) : Int)) else (some (false, 0)))) r →
          Ev (fun k => ring_Irreducible.l0 k p ((bl p : Int) - 1) (pmod 2 p : Nat) (pmod (pp 2 (2 ^ (i - 1))) p : Nat) i) r := by
        intro r hr
        refine Ev.step (fun k => ring_Irreducible.l0.eq_2 _ _ _ _ _ k) ?_
        rw [e1]
        simp only [if_pos (show ((i : Nat) : Int) ≤ (((bl p - 1) / 2 : Nat) : Int) by omega)]
        refine Ev.bind (mulMod (pmod_lt64 hp0 hp64) (pmod_lt64 hp0 hp64) hp hp2) ?_
        rw [hy, bits_xor64 (pmod_lt64 hp0 hp64) (pmod_lt64 hp0 hp64), wrap64_id (by omega) (by omega)]
        exact hr
      have hg := gcd (a := p) (b := pmod (pp 2 (2 ^ i)) p ^^^ pmod 2 p) hp64 (Nat.xor_lt_two_pow (pmod_lt64 hp0 hp64) (pmod_lt64 hp0 hp64))
      have hnext := ih (i + 1) (by omega) (by omega)
      rw [Nat.add_sub_cancel] at hnext
      by_cases h1 : pgcd p (pmod (pp 2 (2 ^ i)) p ^^^ pmod 2 p) = 1
      · have hiff : RabinFrom p i ((bl p - 1) / 2) ↔ RabinFrom p (i + 1) ((bl p - 1) / 2) := by
          constructor
          · intro h j h2 h3; exact h j (by omega) h3
          · intro h j h2 h3
            by_cases e : j = i
            · subst e; exact h1
            · exact h j (by omega) h3
        rw [h1] at hg
        constructor
        · intro h
          refine stp _ (Ev.bind hg ?_)
          simp only [show (((1 : Nat) : Int) = 1) from rfl, if_true]
          exact hnext.1 (hiff.1 h)
        · intro h
          refine stp _ (Ev.bind hg ?_)
          simp only [show (((1 : Nat) : Int) = 1) from rfl, if_true]
          exact hnext.2 (fun h' => h (hiff.2 h'))
      · constructor
        · intro h; exact absurd (h i (Nat.le_refl _) hle) h1
        · intro _
          refine stp _ (Ev.bind hg ?_)
          simp only [if_neg (show ¬ ((pgcd p (pmod (pp 2 (2 ^ i)) p ^^^ pmod 2 p) : Nat) : Int) = 1 by omega)]
          exact Ev.now _
    · have hend : Ev (fun k => ring_Irreducible.l0 k p ((bl p : Int) - 1) (pmod 2 p : Nat) (pmod (pp 2 (2 ^ (i - 1))) p : Nat) i) (true, (0 : Int)) := by
        refine Ev.step (fun k => ring_Irreducible.l0.eq_2 _ _ _ _ _ k) ?_
        rw [e1]
        simp only [if_neg (show ¬ ((i : Nat) : Int) ≤ (((bl p - 1) / 2 : Nat) : Int) by omega)]
        exact Ev.now _
      exact ⟨fun _ => hend, fun h => absurd (fun j h1 h2 => by omega) h⟩
theorem Irreducible_to {p : Nat} (hp : 2 ≤ bl p) (hp2 : bl p ≤ 33) (r : Bool × Int)
    (h : Ev (fun k => ring_Irreducible.l0 k p ((bl p : Int) - 1) (pmod 2 p : Nat) (pmod (pp 2 (2 ^ (1 - 1))) p : Nat) ((1 : Nat) : Int)) r) : Ev (fun k => ring_Irreducible.f k p) r := by
  have hp0 : p ≠ 0 := bl_pos.1 (by omega)
  have hp64 : p < 2 ^ 64 := bl_le.1 (by omega)
  have h1 := is_mod hp64 (m := 32) ⟨hp, by omega⟩
  simp only [show ((32 : Nat) : Int) = 32 from rfl] at h1
  unfold ring_Irreducible.f
  simp only [h1, Option.bind_some, if_true, deg hp64]
  refine Ev.bind (divMod hp0 (a := 2) (by decide) hp64) ?_
  rw [Nat.sub_self, Nat.pow_zero, pp_one] at h
  exact h
theorem Irreducible_true {p : Nat} (hp : 2 ≤ bl p) (hp2 : bl p ≤ 33) (h : Rabin p) : Ev (fun k => ring_Irreducible.f k p) (true, (0 : Int)) :=
  Irreducible_to hp hp2 _ ((Irreducible_l0 hp hp2 _ 1 (Nat.le_refl _) (Nat.le_refl _)).1 h)
theorem Irreducible_false {p : Nat} (hp : 2 ≤ bl p) (hp2 : bl p ≤ 33) (h : ¬ Rabin p) : Ev (fun k => ring_Irreducible.f k p) (false, (0 : Int)) :=
  Irreducible_to hp hp2 _ ((Irreducible_l0 hp hp2 _ 1 (Nat.le_refl _) (Nat.le_refl _)).2 h)
theorem Irreducible_none {p : Nat} (hp64 : p < 2 ^ 64) (h : ¬ (2 ≤ bl p ∧ bl p ≤ 33)) : Ev (fun k => ring_Irreducible.f k p) (false, (11 : Int)) := by
  have h1 := not_mod hp64 (m := 32) h
  simp only [show ((32 : Nat) : Int) = 32 from rfl] at h1
  unfold ring_Irreducible.f
  simp only [h1, Option.bind_some, Bool.false_eq_true, if_false]
  exact Ev.now _
/-- Rabin's test finds irreducible polynomials alone. -/
theorem rabin_irr {p : Nat} (hp : 2 ≤ bl p) (h : Rabin p) : Irr p := by
  have hp0 : p ≠ 0 := bl_pos.1 (by omega)
  refine ⟨(lt_bl (n := 1)).1 (by omega), ?_⟩
  -- each factor of a degree from 1 to half of p's own is refuted
  have key : ∀ d, 2 ≤ bl d → bl d - 1 ≤ (bl p - 1) / 2 → ¬ Dv d p := by
    intro d hd hd2 hdv
    obtain ⟨q, hq, hqd⟩ := irr_factor _ d (Nat.le_refl _) ((lt_bl (n := 1)).1 (by omega))
    have hd0 : d ≠ 0 := bl_pos.1 (by omega)
    have hqb := hqd.bl_le hd0
    have hq2 : 1 < bl q := lt_bl.2 hq.1
    obtain ⟨e, he⟩ : ∃ e, bl q = e + 1 := ⟨bl q - 1, by omega⟩
    have hf := fermat' hq he 2
    have hqp : Dv q p := hqd.trans hdv
    have h1 : Dv q (pp 2 (2 ^ e) ^^^ 2) := (pmod_eq_iff hq.ne).1 hf
    have h2 : Dv q (pmod (pp 2 (2 ^ e)) p ^^^ pmod 2 p) := by
      have h3 := hqp.trans (dv_xor_pmod hp0 (pp 2 (2 ^ e) ^^^ 2))
      rw [pmod_xor hp0, Nat.xor_comm] at h3
      exact h3.of_xor h1
    have h4 := dv_pgcd hqp h2
    rw [h e (by omega) (by omega)] at h4
    have := h4.bl_le (by decide)
    rw [bl_one] at this
    omega
  intro d e hde
  have hd0 : d ≠ 0 := by rintro rfl; rw [zero_cl] at hde; exact hp0 hde
  have he0 : e ≠ 0 := by rintro rfl; rw [cl_zero] at hde; exact hp0 hde
  have hb := bl_cl hd0 he0
  rw [← hde] at hb
  have hd1 := bl_pos.2 hd0
  have he1 := bl_pos.2 he0
  by_cases h1 : bl d = 1
  · left; have : d < 2 ^ 1 := bl_le.1 (by omega); omega
  · by_cases h2 : bl e = 1
    · right; have : e < 2 ^ 1 := bl_le.1 (by omega); omega
    · exfalso
      by_cases h3 : bl d - 1 ≤ (bl p - 1) / 2
      · exact key d (by omega) h3 ⟨e, by rw [cl_comm]; exact hde⟩
      · exact key e (by omega) (by omega) ⟨d, hde⟩

/-- ring.Mul: the product. -/
theorem mod_succ (b i : Nat) : b % 2 ^ (i + 1) = (b % 2 ^ i) ^^^ (if b.testBit i then 2 ^ i else 0) := by
  apply Nat.eq_of_testBit_eq
  intro j
  rw [Nat.testBit_mod_two_pow, Nat.testBit_xor, Nat.testBit_mod_two_pow]
  by_cases hb : b.testBit i = true
  · rw [if_pos hb, Nat.testBit_two_pow]
    by_cases e : i = j
    · subst e; simp [hb]
    · by_cases hj : j < i
      · simp [hj, e, show j < i + 1 by omega]
      · simp [hj, e, show ¬ j < i + 1 by omega]
  · rw [if_neg hb, Nat.zero_testBit]
    by_cases e : i = j
    · subst e; simp [hb]
    · by_cases hj : j < i
      · simp [hj, show j < i + 1 by omega]
      · simp [hj, show ¬ j < i + 1 by omega]
theorem u32_wrap_nat {n : Nat} (h : n < 2 ^ 32) : IntKind.u32.wrap (n : Int) = n := by
  rw [IntKind.wrap_u32]; omega
theorem bit32 {a s : Nat} (ha : a < 2 ^ 32) (hs : s ≤ 32) : Go.bits .and .u32 (shr .u32 a s) 1 = (if a.testBit s then 1 else 0 : Int) := by
  have e : shr .u32 a s = ((a / 2 ^ s : Nat) : Int) := by
    unfold shr
    rw [show IntKind.u32.bits = 32 from rfl, Int.toNat_natCast, Nat.min_eq_left hs]
    simp
  rw [e]
  have h1 : a / 2 ^ s < 2 ^ 32 := Nat.lt_of_le_of_lt (Nat.div_le_self _ _) ha
  have := (bits_nat3 .u32 (a := a / 2 ^ s) (b := 1) h1 (by decide) fun _ h => u32_wrap_nat h).2.2
  rw [show ((1 : Nat) : Int) = 1 from rfl] at this
  rw [this, Nat.and_one_is_mod, Nat.testBit_eq_decide_div_mod_eq]
  rcases Nat.mod_two_eq_zero_or_one (a / 2 ^ s) with e | e <;> rw [e] <;> simp
theorem cl_lt {a b m n : Nat} (ha : a < 2 ^ m) (hb : b < 2 ^ n) : cl a b < 2 ^ (m + n) := by
  by_cases h0 : a = 0
  · subst h0; rw [zero_cl]; exact Nat.two_pow_pos _
  · by_cases h1 : b = 0
    · subst h1; rw [cl_zero]; exact Nat.two_pow_pos _
    · have := bl_cl h0 h1
      have := bl_le.2 ha
      have := bl_le.2 hb
      exact bl_le.1 (by omega)
theorem Mul_l0 {a b : Nat} (ha : a < 2 ^ 32) (hb : b < 2 ^ 32) : ∀ (n i : Nat), 32 - i ≤ n → i ≤ 32 → Ev (fun k => ring_Mul.l0 k a b (cl a (b % 2 ^ i) : Nat) i) (cl a b : Nat) := by
  intro n
  induction n with
  | zero =>
    intro i h hi
    have : i = 32 := by omega
    subst this
    refine Ev.step (fun k => ring_Mul.l0.eq_2 _ _ _ _ k) ?_
    simp only [if_neg (show ¬ ((32 : Nat) : Int) < 32 by omega)]
    rw [Nat.mod_eq_of_lt hb]
    exact Ev.now _
  | succ n ih =>
    intro i h hi
    by_cases hlt : i < 32
    · refine Ev.step (fun k => ring_Mul.l0.eq_2 _ _ _ _ k) ?_
      simp only [if_pos (show ((i : Nat) : Int) < 32 by omega), if_pos (show (0 : Int) ≤ ((i : Nat) : Int) by omega)]
      have h1 : cl a (b % 2 ^ i) < 2 ^ 64 := Nat.lt_of_lt_of_le (cl_lt ha (Nat.mod_lt _ (Nat.two_pow_pos i))) (Nat.pow_le_pow_right (by decide) (by omega))
      have h2 : a * 2 ^ i < 2 ^ 64 := by
        have h3 : a * 2 ^ i < 2 ^ 32 * 2 ^ i := Nat.mul_lt_mul_of_pos_right ha (Nat.two_pow_pos i)
        rw [← Nat.pow_add] at h3
        exact Nat.lt_of_lt_of_le h3 (Nat.pow_le_pow_right (by decide) (by omega))
      rw [bit32 hb (by omega), u64_wrap_nat (by omega), wrap64_id (by omega) (by omega), shl64 (by omega) h2, bits_xor64 h1 h2]
      have := ih (i + 1) (by omega) (by omega)
      rw [mod_succ, cl_xor_right] at this
      by_cases hbit : b.testBit i = true
      · simp only [hbit, if_true]
        rw [if_pos hbit, cl_pow] at this
        exact this
      · simp only [hbit, if_false, Bool.false_eq_true, show ¬ ((0 : Int) = 1) by decide]
        rw [if_neg hbit, cl_zero, Nat.xor_zero] at this
        exact this
    · have : i = 32 := by omega
      subst this
      refine Ev.step (fun k => ring_Mul.l0.eq_2 _ _ _ _ k) ?_
      simp only [if_neg (show ¬ ((32 : Nat) : Int) < 32 by omega)]
      rw [Nat.mod_eq_of_lt hb]
      exact Ev.now _
theorem Mul {a b : Nat} (ha : a < 2 ^ 32) (hb : b < 2 ^ 32) : Ev (fun k => ring_Mul.f k a b) (cl a b : Nat) := by
  unfold ring_Mul.f
  have := Mul_l0 ha hb 32 0 (by omega) (by omega)
  rw [Nat.pow_zero, Nat.mod_one, cl_zero] at this
  exact this

theorem awake : Ev culletlaw01_awake.f true := Ev.of (culletlaw01_awake.mono) (k := 200) (by decide +kernel)

/-! orders -/
theorem nodup_length_le : ∀ {l m : List Nat}, l.Nodup → (∀ x ∈ l, x ∈ m) → l.length ≤ m.length := by
  intro l
  induction l with
  | nil => intro m _ _; exact Nat.zero_le _
  | cons x l ih =>
    intro m hn hs
    have hx : x ∈ m := hs x (by simp)
    have hp := (List.perm_cons_erase hx).length_eq
    rw [List.nodup_cons] at hn
    have := ih (m := m.erase x) hn.2 (by
      intro y hy
      have hne : y ≠ x := by rintro rfl; exact hn.1 hy
      exact (List.mem_erase_of_ne hne).2 (hs y (by simp [hy])))
    rw [List.length_cons] at hp ⊢
    omega
theorem cancel_coprime {p a x y : Nat} (hp : p ≠ 0) (h : pgcd a p = 1) (e : pmod (cl a x) p = pmod (cl a y) p) : pmod x p = pmod y p := by
  obtain ⟨u, v, huv⟩ := pgcd_bezout a p
  rw [h] at huv
  rw [pmod_eq_iff hp, ← cl_xor_right] at e
  rw [pmod_eq_iff hp]
  have h1 : x ^^^ y = cl u (cl a (x ^^^ y)) ^^^ cl (cl v p) (x ^^^ y) := by
    rw [← cl_assoc, ← cl_xor_left, ← huv, one_cl]
  have h3 := (e.mul_left u).xor (((Dv.refl p).mul_left v).mul_right (x ^^^ y))
  rwa [← h1] at h3
theorem order_exists {p d a : Nat} (hd : bl p = d + 1) (h1 : 1 ≤ d) (h : pgcd a p = 1) : ∃ n, 1 ≤ n ∧ n < 2 ^ d ∧ pmod (pp a n) p = 1 := by
  have hp : p ≠ 0 := bl_pos.1 (by omega)
  have hone : pmod 1 p = 1 := pmod_small (by rw [bl_one]; omega)
  have hpos : 0 < 2 ^ d := Nat.two_pow_pos d
  have hnz : ∀ n, pmod (pp a n) p ≠ 0 := by
    intro n
    induction n with
    | zero => rw [pp, hone]; decide
    | succ n ih =>
      rw [pp_succ, cl_comm]
      intro e
      have e0 : pmod (cl a (pp a n)) p = pmod (cl a 0) p := by rw [e, cl_zero, pmod_small (by rw [bl_zero]; omega)]
      have := cancel_coprime hp h e0
      rw [pmod_small (a := 0) (by rw [bl_zero]; omega)] at this
      exact ih this
  apply Classical.byContradiction
  intro hno
  have hinj : ∀ i j, i < j → j < 2 ^ d → pmod (pp a i) p = pmod (pp a j) p → False := by
    intro i
    induction i with
    | zero =>
      intro j hij hj e
      rw [pp, hone] at e
      exact hno ⟨j, by omega, hj, e.symm⟩
    | succ i ih =>
      intro j hij hj e
      obtain ⟨j', rfl⟩ : ∃ j', j = j' + 1 := ⟨j - 1, by omega⟩
      rw [pp_succ, pp_succ, cl_comm, cl_comm (pp a j')] at e
      exact ih j' (by omega) (by omega) (cancel_coprime hp h e)
  have hN : ((List.range (2 ^ d)).map fun i => pmod (pp a i) p).Nodup := nodup_map List.nodup_range (by
    intro i hi j hj e
    rw [List.mem_range] at hi hj
    rcases Nat.lt_trichotomy i j with k | k | k
    · exact (hinj i j k hj e).elim
    · exact k
    · exact (hinj j i k hi e.symm).elim)
  have := nodup_length_le (m := (List.range (2 ^ d - 1)).map (· + 1)) hN (by
    intro x hx
    obtain ⟨i, _, rfl⟩ := List.mem_map.1 hx
    refine List.mem_map.2 ⟨pmod (pp a i) p - 1, List.mem_range.2 ?_, ?_⟩
    · have h3 : pmod (pp a i) p < 2 ^ d := bl_le.1 (by have := pmod_lt hp (pp a i); omega)
      have := hnz i
      omega
    · have := hnz i
      omega)
  rw [List.length_map, List.length_map, List.length_range, List.length_range] at this
  omega
/-- n is the order of a modulo p. -/
def IsOrd (a p n : Nat) : Prop := 1 ≤ n ∧ pmod (pp a n) p = 1 ∧ ∀ j, 1 ≤ j → j < n → pmod (pp a j) p ≠ 1
theorem least {P : Nat → Prop} : ∀ n, P n → ∃ m, m ≤ n ∧ P m ∧ ∀ j, j < m → ¬ P j := by
  intro n
  induction n using Nat.strongRecOn with
  | _ n ih =>
    intro h
    by_cases hx : ∃ j, j < n ∧ P j
    · obtain ⟨j, hj, hP⟩ := hx
      obtain ⟨m, h1, h2, h3⟩ := ih j hj hP
      exact ⟨m, by omega, h2, h3⟩
    · exact ⟨n, Nat.le_refl _, h, fun j hj hP => hx ⟨j, hj, hP⟩⟩
theorem isOrd_exists {p d a : Nat} (hd : bl p = d + 1) (h1 : 1 ≤ d) (h : pgcd a p = 1) : ∃ n, IsOrd a p n ∧ n < 2 ^ d := by
  obtain ⟨n, hn1, hn2, hn3⟩ := order_exists hd h1 h
  obtain ⟨m, e1, e2, e3⟩ := least (P := fun n => 1 ≤ n ∧ pmod (pp a n) p = 1) n ⟨hn1, hn3⟩
  exact ⟨m, ⟨e2.1, e2.2, fun j hj hjm k => e3 j hjm ⟨hj, k⟩⟩, by omega⟩
theorem Order_l0 {a p N : Nat} (ha : a < 2 ^ 64) (hp : 2 ≤ bl p) (hp2 : bl p ≤ 33) (hN : IsOrd a p N) (hN2 : N < 2 ^ 62) : ∀ (m n : Nat), N - n ≤ m → 1 ≤ n → n ≤ N →
    Ev (fun k => ring_Order.l0 k a p 1 (pmod (pp a n) p : Nat) n) ((N : Int), (0 : Int)) := by
  have hp0 : p ≠ 0 := bl_pos.1 (by omega)
  have hp64 : p < 2 ^ 64 := bl_le.1 (by omega)
  intro m
  induction m with
  | zero =>
    intro n h h1 h2
    have : n = N := by omega
    subst this
    refine Ev.step (fun k => ring_Order.l0.eq_2 _ _ _ _ _ k) ?_
    rw [hN.2.1]
    simp only [if_pos (show ((1 : Nat) : Int) = 1 from rfl)]
    exact Ev.now _
  | succ m ih =>
    intro n h h1 h2
    by_cases e : n = N
    · subst e
      refine Ev.step (fun k => ring_Order.l0.eq_2 _ _ _ _ _ k) ?_
      rw [hN.2.1]
      simp only [if_pos (show ((1 : Nat) : Int) = 1 from rfl)]
      exact Ev.now _
    · refine Ev.step (fun k => ring_Order.l0.eq_2 _ _ _ _ _ k) ?_
      have hne := hN.2.2 n h1 (by omega)
      simp only [if_neg (show ¬ ((pmod (pp a n) p : Nat) : Int) = 1 by omega)]
      refine Ev.bind (mulMod (pmod_lt64 hp0 hp64) ha hp hp2) ?_
      rw [pmod_cl_left hp0, ← pp_succ, wrap64_id (by omega) (by omega)]
      exact ih (n + 1) (by omega) (by omega) (by omega)
theorem Order {a p N : Nat} (ha : a < 2 ^ 64) (hp : 2 ≤ bl p) (hp2 : bl p ≤ 17) (hg : pgcd a p = 1) (hN : IsOrd a p N) (hN2 : N < 2 ^ 62) : Ev (fun k => ring_Order.f k a p) ((N : Int), (0 : Int)) := by
  have hp0 : p ≠ 0 := bl_pos.1 (by omega)
  have hp64 : p < 2 ^ 64 := bl_le.1 (by omega)
  have h1 := is_mod hp64 (m := 16) ⟨hp, by omega⟩
  simp only [show ((16 : Nat) : Int) = 16 from rfl] at h1
  unfold ring_Order.f
  simp only [h1, Option.bind_some, if_true]
  refine Ev.bind (gcd ha hp64) ?_
  rw [hg]
  simp only [if_pos (show ((1 : Nat) : Int) = 1 from rfl)]
  refine Ev.bind (divMod hp0 (a := 1) (by decide) hp64) ?_
  refine Ev.bind (divMod hp0 ha hp64) ?_
  have := Order_l0 ha hp (by omega) hN hN2 _ 1 (Nat.le_refl _) (Nat.le_refl _) hN.1
  rw [pp_one] at this
  rw [pmod_small (a := 1) (by rw [bl_one]; omega)]
  exact this
theorem Order_no {a p : Nat} (ha : a < 2 ^ 64) (hp : 2 ≤ bl p) (hp2 : bl p ≤ 17) (hg : pgcd a p ≠ 1) : Ev (fun k => ring_Order.f k a p) ((0 : Int), (12 : Int)) := by
  have hp64 : p < 2 ^ 64 := bl_le.1 (by omega)
  have h1 := is_mod hp64 (m := 16) ⟨hp, by omega⟩
  simp only [show ((16 : Nat) : Int) = 16 from rfl] at h1
  unfold ring_Order.f
  simp only [h1, Option.bind_some, if_true]
  refine Ev.bind (gcd ha hp64) ?_
  simp only [if_neg (show ¬ ((pgcd a p : Nat) : Int) = 1 by omega)]
  exact Ev.now _
theorem Order_none {a : Int} {p : Nat} (hp64 : p < 2 ^ 64) (h : ¬ (2 ≤ bl p ∧ bl p ≤ 17)) : Ev (fun k => ring_Order.f k a p) ((0 : Int), (11 : Int)) := by
  have h1 := not_mod hp64 (m := 16) h
  simp only [show ((16 : Nat) : Int) = 16 from rfl] at h1
  unfold ring_Order.f
  simp only [h1, Option.bind_some, Bool.false_eq_true, if_false]
  exact Ev.now _
theorem Primitive_none {p : Nat} (hp64 : p < 2 ^ 64) (h : ¬ (2 ≤ bl p ∧ bl p ≤ 17)) : Ev (fun k => ring_Primitive.f k p) (false, (11 : Int)) := by
  have h1 := not_mod hp64 (m := 16) h
  simp only [show ((16 : Nat) : Int) = 16 from rfl] at h1
  unfold ring_Primitive.f
  simp only [h1, Option.bind_some, Bool.false_eq_true, if_false]
  exact Ev.now _
theorem Primitive_red {p : Nat} (hp : 2 ≤ bl p) (hp2 : bl p ≤ 17) (h : ¬ Rabin p) : Ev (fun k => ring_Primitive.f k p) (false, (0 : Int)) := by
  have hp64 : p < 2 ^ 64 := bl_le.1 (by omega)
  have h1 := is_mod hp64 (m := 16) ⟨hp, by omega⟩
  simp only [show ((16 : Nat) : Int) = 16 from rfl] at h1
  unfold ring_Primitive.f
  simp only [h1, Option.bind_some, if_true]
  refine Ev.bind (Irreducible_false hp (by omega) h) ?_
  simp only [Bool.false_eq_true, if_false]
  exact Ev.now _
/-- Primitive of an irreducible p, by what Order answers. -/
theorem Primitive_irr {p d : Nat} (hd : bl p = d + 1) (h1d : 1 ≤ d) (h16 : d ≤ 16) (h : Rabin p) (n e : Int) (ho : Ev (fun k => ring_Order.f k 2 p) (n, e)) :
    Ev (fun k => ring_Primitive.f k p) (decide (e = 0 ∧ n = ((2 ^ d - 1 : Nat) : Int)), (0 : Int)) := by
  have hp64 : p < 2 ^ 64 := bl_le.1 (by omega)
  have h1 := is_mod hp64 (m := 16) ⟨by omega, by omega⟩
  simp only [show ((16 : Nat) : Int) = 16 from rfl] at h1
  unfold ring_Primitive.f
  simp only [h1, Option.bind_some, if_true]
  refine Ev.bind (Irreducible_true (by omega) (by omega) h) ?_
  simp only [if_true]
  refine Ev.bind ho ?_
  by_cases he : e = 0
  · simp only [if_pos he, deg hp64, Option.bind_some, if_pos (show 0 ≤ (bl p : Int) - 1 by omega)]
    have hsh : shl .i64 1 ((bl p : Int) - 1) = ((2 ^ d : Nat) : Int) := by
      unfold shl
      rw [show (bl p : Int) - 1 = ((d : Nat) : Int) by omega, Int.toNat_natCast, show IntKind.i64.bits = 64 from rfl, Nat.min_eq_left (by omega), IntKind.wrap_i64]
      have h2 : 2 ^ d ≤ 2 ^ 16 := Nat.pow_le_pow_right (by decide) h16
      have h3 : ((2 : Int) ^ d) = ((2 ^ d : Nat) : Int) := by simp
      rw [h3]
      generalize (2 ^ d : Nat) = z at h2 ⊢
      omega
    have h2 : 2 ^ d ≤ 2 ^ 16 := Nat.pow_le_pow_right (by decide) h16
    have h3 := Nat.two_pow_pos d
    rw [hsh, wrap64_id (by omega) (by omega)]
    have e3 : ((2 ^ d : Nat) : Int) - 1 = ((2 ^ d - 1 : Nat) : Int) := by omega
    rw [e3]
    have e4 : (n == ((2 ^ d - 1 : Nat) : Int)) = decide (e = 0 ∧ n = ((2 ^ d - 1 : Nat) : Int)) := by
      rw [Bool.eq_iff_iff]; simp [he]
    rw [← e4]
    exact Ev.now _
  · simp only [if_neg he]
    rw [decide_eq_false (fun k => he k.1)]
    exact Ev.now _
/-! arguments -/
theorem of_u64 {a : Int} (h : (Lit.int .u64 a).wf = true) : ∃ n : Nat, a = (n : Int) ∧ n < 2 ^ 64 := by
  simp only [Lit.wf, IntKind.min, IntKind.max, IntKind.signed, IntKind.bits, Bool.and_eq_true, decide_eq_true_eq, Bool.false_eq_true, if_false] at h
  exact ⟨a.toNat, by omega, by omega⟩
end Go.Proofs.YthldahaimcdejaaDoor.R
