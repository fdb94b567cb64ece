/- The residues modulo an irreducible polynomial as a field; an irreducible polynomial meets Rabin's test. Plain Lean. -/
import Derived.Test.YthldahaimcdejaaDoorZ4

set_option linter.unusedVariables false
set_option linter.unusedSimpArgs false
namespace GP
/-- The residues modulo p. -/
structure FP (p d : Nat) where
  v : Nat
  lt : v < 2 ^ d
theorem FP.ext {p d : Nat} {a b : FP p d} (h : a.v = b.v) : a = b := by cases a; cases b; cases h; rfl
/-- They are a field. -/
@[reducible] def fpFld {p d : Nat} (h : Irr p) (hd : bl p = d + 1) (h1 : 1 ≤ d) : LA.Fld (FP p d) where
  add a b := ⟨a.v ^^^ b.v, Nat.xor_lt_two_pow a.lt b.lt⟩
  mul a b := ⟨fm p a.v b.v, fm_lt hd _ _⟩
  zero := ⟨0, Nat.two_pow_pos _⟩
  one := ⟨1, Nat.lt_of_lt_of_le (by decide : 1 < 2 ^ 1) (Nat.pow_le_pow_right (by decide) h1)⟩
  iv a := ⟨fpow p a.v (2 ^ d - 2), fpow_lt hd _ _⟩
  add_comm a b := FP.ext (Nat.xor_comm _ _)
  add_assoc a b c := FP.ext (Nat.xor_assoc _ _ _)
  add_zero a := FP.ext (Nat.xor_zero _)
  add_self a := FP.ext (Nat.xor_self _)
  mul_comm a b := FP.ext (fm_comm p _ _)
  mul_assoc a b c := FP.ext (fm_assoc h.ne _ _ _)
  mul_one a := FP.ext (fm_one h hd a.lt)
  mul_add a b c := FP.ext (fm_xor_right h.ne _ _ _)
  one_ne e := absurd (congrArg FP.v e) (show ¬ (1 : Nat) = 0 by decide)
  mul_iv a e := FP.ext (by
    have h0 : a.v ≠ 0 := fun z => e (FP.ext z)
    show fm p a.v (fpow p a.v (2 ^ d - 2)) = 1
    rw [fm_comm]
    exact fm_inv h hd a.lt h0)
  dec a b := decidable_of_iff (a.v = b.v) ⟨FP.ext, fun h => by rw [h]⟩
/-- If x to the 2^j is x, so are all residues. -/
theorem frob_all {p j : Nat} (hp : p ≠ 0) (e : pmod (pp 2 (2 ^ j)) p = pmod 2 p) : ∀ m a, a < 2 ^ m → pmod (pp a (2 ^ j)) p = pmod a p := by
  have mono : ∀ k, pmod (pp (2 ^ k) (2 ^ j)) p = pmod (2 ^ k) p := by
    intro k
    have e1 : ∀ k, pp 2 k = 2 ^ k := by
      intro k
      induction k with
      | zero => rfl
      | succ k ih => rw [pp_succ, ih, cl_comm, show (2 : Nat) = 2 ^ 1 from rfl, pow_cl, ← Nat.pow_mul, Nat.one_mul, ← Nat.pow_add]
    rw [← e1 k, ← pp_mul, Nat.mul_comm, pp_mul, ← pp_pmod hp, e, pp_pmod hp]
  have z : pp 0 (2 ^ j) = 0 := by
    obtain ⟨q, hq⟩ : ∃ q, 2 ^ j = q + 1 := ⟨2 ^ j - 1, by have := Nat.two_pow_pos j; omega⟩
    rw [hq, pp_succ, cl_zero]
  intro m
  induction m with
  | zero => intro a ha; have : a = 0 := by omega
            subst this; rw [z]
  | succ m ih =>
    intro a ha
    by_cases hb : a.testBit m = true
    · have e2 : a = 2 ^ m ^^^ (a ^^^ 2 ^ m) := by rw [Nat.xor_comm a, ← Nat.xor_assoc, Nat.xor_self, Nat.zero_xor]
      have hlt : a ^^^ 2 ^ m < 2 ^ m := by
        have h1 : bl a = m + 1 := bl_eq (Nat.ge_two_pow_of_testBit hb) ha
        have h2 : bl (2 ^ m) = m + 1 := bl_eq (Nat.le_refl _) (Nat.pow_lt_pow_right (by decide) (by omega))
        have := bl_xor_lt (h1.trans h2.symm) (by intro e; rw [e, bl_zero] at h1; omega)
        exact bl_le.1 (by omega)
      rw [e2, pp_frob, pmod_xor hp, mono, ih _ hlt, ← pmod_xor hp]
    · have hlt : a < 2 ^ m := by
        apply Classical.byContradiction
        intro hc
        exact hb (top_bit (bl_eq (by omega) ha))
      exact ih a hlt
theorem frob_not {p d j : Nat} (h : Irr p) (hd : bl p = d + 1) (h1 : 1 ≤ j) (hj : j < d) : pmod (pp 2 (2 ^ j)) p ≠ pmod 2 p := by
  intro e
  have hp := h.ne
  have all := frob_all hp e
  letI := fpFld h hd (by omega)
  have hpx : ∀ (x : FP p d) (n : Nat), (LA.px x n).v = pmod (pp x.v n) p := by
    intro x n
    induction n with
    | zero =>
      show 1 = pmod (pp x.v 0) p
      rw [show pp x.v 0 = 1 from rfl, pmod_small (by rw [bl_one, hd]; omega)]
    | succ n ih =>
      show fm p (LA.px x n).v x.v = _
      rw [ih, pp_succ]
      exact pmod_cl_left hp _ _
  have hN : 2 ≤ 2 ^ j := by have := Nat.pow_le_pow_right (n := 2) (by decide) h1; omega
  have hNd : 2 ^ j + 1 ≤ 2 ^ d := by have := Nat.pow_lt_pow_right (a := 2) (by decide) hj; omega
  obtain ⟨k, hk⟩ : ∃ k, k = 2 ^ j + 1 := ⟨_, rfl⟩
  let u : Nat → FP p d := fun i => if h : i < 2 ^ d then ⟨i, h⟩ else ⟨0, Nat.two_pow_pos _⟩
  have hu : ∀ i, i < k → (u i).v = i := fun i hi => by show (if h : i < 2 ^ d then (⟨i, h⟩ : FP p d) else ⟨0, Nat.two_pow_pos _⟩).v = i; rw [dif_pos (by omega)]
  have hdet := LA.vdm_ne (F := FP p d) (pt := u) (k := k) (fun i j hi hj e => by rw [← hu i hi, ← hu j hj, e])
  obtain ⟨X, hX, -⟩ := LA.inv_of_det hdet
  let A : Nat → Nat → FP p d := fun c _ => if c = 1 then 1 else if c = 2 ^ j then 1 else 0
  have zero : ∀ s, s < k → LA.mm k (fun s c => LA.px (u s) c) A s 0 = 0 := fun s hs => by
    show LA.sm k (fun c => LA.px (u s) c * A c 0) = 0
    have two : ∀ n, LA.sm n (fun c => LA.px (u s) c * A c 0) = (if 1 < n then u s else 0) + (if 2 ^ j < n then LA.px (u s) (2 ^ j) else 0) := by
      intro n
      induction n with
      | zero =>
        rw [if_neg (by omega), if_neg (by omega)]
        exact (LA.Fld.add_zero _).symm
      | succ n ih =>
        show LA.sm n _ + LA.px (u s) n * A n 0 = _
        rw [ih]
        by_cases c1 : n = 1
        · have e1 : LA.px (u s) n * A n 0 = u s := by
            show LA.px (u s) n * (if n = 1 then 1 else if n = 2 ^ j then 1 else 0) = u s
            rw [if_pos c1, LA.Fld.mul_one, c1]
            show LA.px (u s) 0 * u s = u s
            exact LA.one_mul _
          rw [e1, if_neg (show ¬ 1 < n by omega), if_neg (show ¬ 2 ^ j < n by omega), if_pos (show 1 < n + 1 by omega), if_neg (show ¬ 2 ^ j < n + 1 by omega), LA.Fld.add_zero, LA.zero_add, LA.Fld.add_zero]
        · by_cases c2 : n = 2 ^ j
          · have e1 : LA.px (u s) n * A n 0 = LA.px (u s) (2 ^ j) := by
              show LA.px (u s) n * (if n = 1 then 1 else if n = 2 ^ j then 1 else 0) = _
              rw [if_neg c1, if_pos c2, LA.Fld.mul_one, c2]
            rw [e1, if_pos (show 1 < n by omega), if_neg (show ¬ 2 ^ j < n by omega), if_pos (show 1 < n + 1 by omega), if_pos (show 2 ^ j < n + 1 by omega), LA.Fld.add_zero]
          · have e1 : LA.px (u s) n * A n 0 = 0 := by
              show LA.px (u s) n * (if n = 1 then 1 else if n = 2 ^ j then 1 else 0) = _
              rw [if_neg c1, if_neg c2, LA.mul_zero]
            rw [e1, LA.Fld.add_zero]
            have i1 : (1 < n) = (1 < n + 1) := propext ⟨fun h => by omega, fun h => by omega⟩
            have i2 : (2 ^ j < n) = (2 ^ j < n + 1) := propext ⟨fun h => by omega, fun h => by omega⟩
            simp only [i1, i2]
    rw [two, if_pos (show 1 < k by omega), if_pos (show 2 ^ j < k by omega)]
    have e3 : LA.px (u s) (2 ^ j) = u s := FP.ext (by
      rw [hpx, all d _ (u s).lt, pmod_small (by rw [hd]; have := bl_le.2 (u s).lt; omega)])
    rw [e3, LA.Fld.add_self]
  have e4 := congrFun (congrFun (LA.mm_assoc k k X (fun s c => LA.px (u s) c) A) 1) 0
  have e5 : LA.mm k X (LA.mm k (fun s c => LA.px (u s) c) A) 1 0 = 0 := by
    show LA.sm k (fun s => X 1 s * LA.mm k (fun s c => LA.px (u s) c) A s 0) = 0
    rw [LA.sm_congr (g := fun _ => (0 : FP p d)) (fun s hs => by rw [zero s hs, LA.mul_zero])]
    exact LA.sm_none (fun _ _ => rfl)
  have e6 : LA.mm k (LA.mm k X (fun s c => LA.px (u s) c)) A 1 0 = LA.mm k LA.one A 1 0 := LA.sm_congr (fun c hc => by rw [hX 1 c (by omega) hc])
  rw [e5] at e4
  rw [e4, LA.one_mm A (show 1 < k by omega) 0] at e6
  have e7 : A 1 0 = 1 := if_pos rfl
  rw [e7] at e6
  exact LA.Fld.one_ne e6.symm
/-- An irreducible polynomial and x^(2^j) + x have no factor, for j from 1 to half its degree. -/
theorem irr_free {p : Nat} (hp : 2 ≤ bl p) (h : Irr p) {j : Nat} (h1 : 1 ≤ j) (hj : j ≤ (bl p - 1) / 2) : pgcd p (pmod (pp 2 (2 ^ j)) p ^^^ pmod 2 p) = 1 := by
  obtain ⟨d, hd⟩ : ∃ d, bl p = d + 1 := ⟨bl p - 1, by omega⟩
  rw [pgcd_comm]
  rcases h.gcd (pmod (pp 2 (2 ^ j)) p ^^^ pmod 2 p) with k | k
  · exfalso
    refine frob_not h hd h1 (by omega) ?_
    have := (pmod_eq_zero h.ne).2 k
    rw [pmod_xor h.ne, pmod_pmod h.ne, pmod_pmod h.ne] at this
    exact xor_eq_zero.1 this
  · exact k
end GP
