/- What the tables of the field of 65536 hold, and what their methods answer. -/
import Derived.Test.YtklkcenffajfeaaGf16Fns
import Derived.Test.YtklkcenffajfeaaRef03Fns
import Derived.Test.YtklkcenffajfeaaAx1
import Derived.Test.YtklkcenffajfeaaAx2
namespace Go.Proofs.Ytklkcenffajfeaa.R
open Go.RowKit Go.Proofs.YtklkcenffajfeaaW.PrintWords Go.Proofs.YtklkcenffajfeaaW.PrintLast Go.Proofs.YtklkcenffajfeaaW.PrintMore Go.Proofs.Ytklkcenffajfeaa.A GP
set_option linter.unusedVariables false
set_option linter.unusedSimpArgs false

theorem red16 {y : Nat} (h : 65535 < y) (h2 : y < 2 ^ 17) : y ^^^ 65581 < 65536 := by
  have hx : y ^^^ 65581 < 2 ^ 17 := Nat.xor_lt_two_pow h2 (by decide)
  have hb : (y ^^^ 65581).testBit 16 = false := by
    rw [Nat.testBit_xor]
    have : y.testBit 16 = true := by rw [Nat.testBit_eq_decide_div_mod_eq, decide_eq_true_eq]; omega
    rw [this]; decide
  rw [Nat.testBit_eq_decide_div_mod_eq, decide_eq_false_iff_not] at hb
  omega
theorem fm16_two {x : Nat} (hx : x < 65536) : fm 65581 x 2 = if 65535 < 2 * x then (2 * x) ^^^ 65581 else 2 * x := by
  have e : cl x 2 = 2 * x := by have := cl_pow x 1; rw [Nat.pow_one] at this; omega
  unfold fm
  rw [e]
  by_cases h : 65535 < 2 * x
  · rw [if_pos h]
    have h1 : pmod 65581 65581 = 0 := by
      have := pmod_self_mul (b := 65581) (by decide) 1
      rwa [cl_comm, cl_one] at this
    have h2 := pmod_xor (b := 65581) (by decide) (2 * x) 65581
    rw [h1, Nat.xor_zero, pmod_id bl65581 (red16 h (by omega))] at h2
    exact h2.symm
  · rw [if_neg h, pmod_id bl65581 (by omega)]
theorem pw16_eq : ∀ n, tab16.pw n = p16 2 n
  | 0 => by rw [p16_zero]; rfl
  | n + 1 => by
    rw [p16_succ, ← pw16_eq n]
    show _ = fm 65581 (tab16.pw n) 2
    rw [fm16_two (tab16.pw_lt n)]
    rfl
theorem pw16_inj {i j : Nat} (hi : i < 65535) (hj : j < 65535) (e : tab16.pw i = tab16.pw j) : i = j := by
  rw [pw16_eq, pw16_eq] at e
  exact fpow_inj irr16 bl65581 ord16 (by decide) i j hi hj e
theorem lg16_pw {m : Nat} : ∀ N, N ≤ 65535 → m < N → tab16.lg N (tab16.pw m) = some m
  | 0, _, h => by omega
  | N + 1, hN, h => by
    unfold tab16.lg
    by_cases e : m = N
    · subst e; rw [if_pos rfl]
    · rw [if_neg (fun k => e (pw16_inj (by omega) (by omega) k.symm))]
      exact lg16_pw N (by omega) (by omega)
theorem log16 {a : Nat} (ha : a < 65536) (h0 : a ≠ 0) : ∃ i, i < 65535 ∧ tab16.pw i = a ∧ tab16.lg 65535 a = some i := by
  obtain ⟨i, hi, e⟩ := fpow_surj irr16 bl65581 ord16 (by decide) ha h0
  have e2 : tab16.pw i = a := by rw [pw16_eq]; exact e
  exact ⟨i, hi, e2, by rw [← e2]; exact lg16_pw 65535 (Nat.le_refl _) hi⟩
theorem pw16_ne (n : Nat) : tab16.pw n ≠ 0 := by rw [pw16_eq]; exact fpow_ne irr16 bl65581 (by decide) (by decide) n
theorem pw16_mod (n : Nat) : tab16.pw (n % 65535) = tab16.pw n := by
  rw [pw16_eq, pw16_eq]; exact (fpow_mod irr16 bl65581 (by decide) (by decide) n).symm
theorem pw16_add (i j : Nat) : tab16.pw (i + j) = m16 (tab16.pw i) (tab16.pw j) := by
  rw [pw16_eq, pw16_eq, pw16_eq]; exact fpow_add (by decide) 2 i j
theorem TExp16 (n : Int) : gf16_Tables_Exp.f n = some ((tab16.pw (res n) : Nat) : Int) := by
  unfold gf16_Tables_Exp.f
  have h := res_lt n
  rw [residue, Option.bind_some, if_pos (by omega), Int.toNat_natCast]
theorem TLog16 {a i : Nat} (hi : i < 65535) (ha : tab16.pw i = a) : gf16_Tables_Log.f a = some ((i : Int), (0 : Int)) := by
  have hl := tab16.pw_lt i
  have h0 := pw16_ne i
  unfold gf16_Tables_Log.f
  rw [if_pos (by omega), if_neg (by omega), Int.toNat_natCast, ← ha, lg16_pw 65535 (Nat.le_refl _) hi, Option.bind_some]
theorem TLog16_zero : gf16_Tables_Log.f 0 = some (0, 20) := by
  unfold gf16_Tables_Log.f
  rw [if_pos (by omega), if_pos rfl]
theorem TMul16 {a b : Nat} (ha : a < 65536) (hb : b < 65536) : gf16_Tables_Mul.f a b = some ((m16 a b : Nat) : Int) := by
  unfold gf16_Tables_Mul.f
  rw [if_pos (by omega), Int.toNat_natCast, Int.toNat_natCast]
  by_cases h0 : a = 0
  · subst h0
    rw [if_pos (show ((0 : Nat) : Int) = 0 from rfl), m16_comm, m16_zero]; rfl
  · rw [if_neg (by omega)]
    by_cases h1 : b = 0
    · subst h1
      rw [if_pos (show ((0 : Nat) : Int) = 0 from rfl), m16_zero]; rfl
    · rw [if_neg (by omega)]
      obtain ⟨i, hi, ei, li⟩ := log16 ha h0
      obtain ⟨j, hj, ej, lj⟩ := log16 hb h1
      rw [li, lj, Option.bind_some, Option.bind_some, pw16_mod, pw16_add, ei, ej]
end Go.Proofs.Ytklkcenffajfeaa.R
