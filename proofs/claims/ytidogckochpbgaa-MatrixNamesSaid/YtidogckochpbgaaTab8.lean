/- What the tables of the field of 256 hold, and what their methods answer. -/
import Derived.Test.YtidogckochpbgaaPeas8
import Derived.Test.YtidogckochpbgaaQx4
import Derived.Test.YtidogckochpbgaaQx14
namespace Go.Proofs.Ytidogckochpbgaa.R
open Go.RowKit Go.Proofs.YtidogckochpbgaaW.PrintWords Go.Proofs.YtidogckochpbgaaW.PrintLast Go.Proofs.YtidogckochpbgaaW.PrintMore Go.Proofs.Ytidogckochpbgaa.Q GP
set_option linter.unusedVariables false
set_option linter.unusedSimpArgs false

def p8 (a n : Nat) : Nat := fpow 285 a n
theorem fm_comm_8 (a b : Nat) : m8 a b = m8 b a := fm_comm 285 a b
theorem fm_zero_8 (a : Nat) : m8 a 0 = 0 := fm_zero 285 a
theorem res8_bound (n : Int) : -255 < Int.tmod n 255 ∧ Int.tmod n 255 < 255 := by
  have h1 := Int.tmod_lt_of_pos n (b := 255) (by decide)
  have h2 := Int.lt_tmod_of_pos n (b := 255) (by decide)
  omega
/-- n modulo 255, from 0 on. -/
def res8 (n : Int) : Nat := (if Int.tmod n 255 < 0 then Int.tmod n 255 + 255 else Int.tmod n 255).toNat
theorem res8_lt (n : Int) : res8 n < 255 := by unfold res8; have := res8_bound n; split <;> omega
theorem res8_eq (n : Int) : ((res8 n : Nat) : Int) = n % 255 := by
  have := res8_bound n
  have h1 : Int.tmod n 255 = n - 255 * Int.tdiv n 255 := by have := Int.mul_tdiv_add_tmod n 255; omega
  unfold res8
  generalize Int.tdiv n 255 = q at h1
  split <;> omega
theorem pw8_eq : ∀ n, tab8.pw n = p8 2 n
  | 0 => by unfold p8; rw [fpow_zero, pmod_one irr8 bl285]; rfl
  | n + 1 => by
    rw [show p8 2 (n + 1) = m8 (p8 2 n) 2 from fpow_succ (by decide) 2 n, ← pw8_eq n]
    show _ = fm 285 (tab8.pw n) 2
    rw [fm8_two (tab8.pw_lt n)]
    rfl
theorem pw8_inj {i j : Nat} (hi : i < 255) (hj : j < 255) (e : tab8.pw i = tab8.pw j) : i = j := by
  rw [pw8_eq, pw8_eq] at e
  exact fpow_inj irr8 bl285 ord8 (by decide) i j hi hj e
theorem lg8_pw {m : Nat} : ∀ N, N ≤ 255 → m < N → tab8.lg N (tab8.pw m) = some m
  | 0, _, h => by omega
  | N + 1, hN, h => by
    unfold tab8.lg
    by_cases e : m = N
    · subst e; rw [if_pos rfl]
    · rw [if_neg (fun k => e (pw8_inj (by omega) (by omega) k.symm))]
      exact lg8_pw N (by omega) (by omega)
theorem log8 {a : Nat} (ha : a < 256) (h0 : a ≠ 0) : ∃ i, i < 255 ∧ tab8.pw i = a ∧ tab8.lg 255 a = some i := by
  obtain ⟨i, hi, e⟩ := fpow_surj irr8 bl285 ord8 (by decide) ha h0
  have e2 : tab8.pw i = a := by rw [pw8_eq]; exact e
  exact ⟨i, hi, e2, by rw [← e2]; exact lg8_pw 255 (Nat.le_refl _) hi⟩
theorem pw8_ne (n : Nat) : tab8.pw n ≠ 0 := by rw [pw8_eq]; exact fpow_ne irr8 bl285 (by decide) (by decide) n
theorem pw8_mod (n : Nat) : tab8.pw (n % 255) = tab8.pw n := by
  rw [pw8_eq, pw8_eq]; exact (fpow_mod irr8 bl285 (by decide) (by decide) n).symm
theorem pw8_add (i j : Nat) : tab8.pw (i + j) = m8 (tab8.pw i) (tab8.pw j) := by
  rw [pw8_eq, pw8_eq, pw8_eq]; exact fpow_add (by decide) 2 i j
theorem TMul8 {a b : Nat} (ha : a < 256) (hb : b < 256) : gf8_Tables_Mul.f a b = some ((m8 a b : Nat) : Int) := by
  unfold gf8_Tables_Mul.f
  rw [if_pos (by omega), Int.toNat_natCast, Int.toNat_natCast]
  by_cases h0 : a = 0
  · subst h0
    rw [if_pos (show ((0 : Nat) : Int) = 0 from rfl), fm_comm_8, fm_zero_8]; rfl
  · rw [if_neg (by omega)]
    by_cases h1 : b = 0
    · subst h1
      rw [if_pos (show ((0 : Nat) : Int) = 0 from rfl), fm_zero_8]; rfl
    · rw [if_neg (by omega)]
      obtain ⟨i, hi, ei, li⟩ := log8 ha h0
      obtain ⟨j, hj, ej, lj⟩ := log8 hb h1
      rw [li, lj, Option.bind_some, Option.bind_some, pw8_mod, pw8_add, ei, ej]
theorem TInv8 {a : Nat} (ha : a < 256) (h0 : a ≠ 0) : gf8_Tables_Inv.f a = some (((i8 a : Nat) : Int), (0 : Int)) := by
  unfold gf8_Tables_Inv.f
  obtain ⟨i, hi, ei, li⟩ := log8 ha h0
  rw [if_pos (by omega), if_neg (by omega), Int.toNat_natCast, li, Option.bind_some]
  have e : m8 (tab8.pw ((255 - i) % 255)) a = 1 := by
    rw [pw8_mod, ← ei, ← pw8_add, show 255 - i + i = 255 by omega, ← pw8_mod]; rfl
  rw [show tab8.pw ((255 - i) % 255) = i8 a from inv_unique irr8 bl285 ha (tab8.pw_lt _) e]
theorem TInv8_zero : gf8_Tables_Inv.f 0 = some (0, 20) := by
  unfold gf8_Tables_Inv.f
  rw [if_pos (by omega), if_pos rfl]
end Go.Proofs.Ytidogckochpbgaa.R
