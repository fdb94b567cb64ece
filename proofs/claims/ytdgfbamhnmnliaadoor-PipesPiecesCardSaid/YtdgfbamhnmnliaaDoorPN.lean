/- Full over a source: the plain law. -/
import Derived.Test.YtdgfbamhnmnliaaDoorPI
namespace Go.Proofs.YtdgfbamhnmnliaaDoor.A
open Go.RowKit Go.Deep Go.Proofs.YtdgfbamhnmnliaaDoor.R Go.Proofs.YtdgfbamhnmnliaaDoorW.PrintWords Go.Proofs.YtdgfbamhnmnliaaDoorW.PrintLast Go.Proofs.YtdgfbamhnmnliaaDoorW.PrintMore
set_option linter.unusedVariables false
set_option linter.unusedSimpArgs false
set_option maxRecDepth 100000
/-- Chunks that never give nothing a hundred times in a row. -/
def stC (C : List Int) : Prop := C = [] ∨ (C.length < 50 ∧ ∃ r, r < C.length ∧ 0 < C.getD r 0)
/-- The idle turns behind. -/
def idleC (C : List Int) (tq idle : Nat) : Prop := idle ≤ tq ∧ (0 < idle → C ≠ []) ∧ ∀ x, tq - idle ≤ x → x < tq → C.getD (x % C.length) 0 ≤ 0
theorem idle_lt {C : List Int} {tq idle : Nat} (hs : stC C) (h : idleC C tq idle) : idle < 50 := by
  rcases Nat.eq_zero_or_pos idle with h0 | h0
  · omega
  rcases hs with hs | ⟨hl, r, hr, hp⟩
  · exact absurd hs (h.2.1 h0)
  rcases Nat.lt_or_ge idle C.length with h1 | h1
  · omega
  exfalso
  obtain ⟨b, hb⟩ : ∃ b, b = tq - C.length := ⟨_, rfl⟩
  have hm := Nat.mod_lt b (show 0 < C.length by omega)
  have hd := Nat.div_add_mod b C.length
  have hq := Nat.mod_lt (r + C.length - b % C.length) (show 0 < C.length by omega)
  have hx : (b + (r + C.length - b % C.length) % C.length) % C.length = r := by
    rw [Nat.add_mod_mod, show b + (r + C.length - b % C.length) = r + C.length + C.length * (b / C.length) by omega, Nat.add_mul_mod_self_left, Nat.add_mod_right, Nat.mod_eq_of_lt hr]
  have := h.2.2 (b + (r + C.length - b % C.length) % C.length) (by have := h.1; omega) (by have := h.1; omega)
  rw [hx] at this
  omega
/-- Where the bytes end. -/
def lastB (D : List Int) (f : Int) : Int := if 0 ≤ f ∧ f < D.length then f else D.length
/-- How many bytes Full gives; its error. -/
def flK (D : List Int) (f : Int) (pl n : Nat) : Nat := if (n : Int) ≤ lastB D f - pl then n else (lastB D f - pl).toNat
def flE (D : List Int) (f : Int) (pl n : Nat) : Int := if flK D f pl n = n then 0 else if 0 ≤ f ∧ f ≤ D.length then 2 else 1
theorem fl_all {D : List Int} {f : Int} {pl n : Nat} (h1 : pl + n ≤ D.length) (h2 : 0 ≤ f → ((pl + n : Nat) : Int) ≤ f) : flK D f pl n = n ∧ flE D f pl n = 0 := by
  have : flK D f pl n = n := by
    unfold flK
    by_cases h3 : 0 ≤ f ∧ f < (D.length : Int)
    · have := h2 h3.1
      rw [show lastB D f = f from if_pos h3]
      split <;> omega
    · rw [show lastB D f = D.length from if_neg h3]
      split <;> omega
  exact ⟨this, by unfold flE; rw [if_pos this]⟩
theorem fl_fail {D : List Int} {f : Int} {pl n k : Nat} (hk : k < n) (h1 : pl + k ≤ D.length) (hf : 0 ≤ f) (h2 : ((pl + k : Nat) : Int) = f) : flK D f pl n = k ∧ flE D f pl n = 2 := by
  have : flK D f pl n = k := by
    unfold flK
    by_cases h3 : 0 ≤ f ∧ f < (D.length : Int)
    · rw [show lastB D f = f from if_pos h3]
      split <;> omega
    · rw [show lastB D f = D.length from if_neg h3]
      split <;> omega
  exact ⟨this, by unfold flE; rw [if_neg (by omega), if_pos ⟨hf, by omega⟩]⟩
theorem fl_end {D : List Int} {f : Int} {pl n k : Nat} (hk : k < n) (h1 : pl + k = D.length) (hf : 0 ≤ f → ((pl + k : Nat) : Int) ≤ f) (h2 : ¬ (0 ≤ f ∧ ((pl + k : Nat) : Int) = f)) : flK D f pl n = k ∧ flE D f pl n = 1 := by
  have : flK D f pl n = k := by
    unfold flK
    by_cases h3 : 0 ≤ f ∧ f < (D.length : Int)
    · have := hf h3.1
      omega
    · rw [show lastB D f = D.length from if_neg h3]
      split <;> omega
  exact ⟨this, by unfold flE; rw [if_neg (by omega), if_neg (fun h => h2 ⟨h.1, by have := hf h.1; omega⟩)]⟩
/-- A read of nothing, without an error, is an idle turn. -/
theorem idle_next {D C : List Int} {f : Int} {pl tq n idle : Nat} (hn : 0 < n) (hpl : pl ≤ D.length) (hf : 0 ≤ f → (pl : Int) ≤ f) (hE : rdE D C f pl tq n = 0) (hK : rdK D C f pl tq n = 0) (h : idleC C tq idle) : rdT D C f pl tq n = tq + 1 ∧ idleC C (tq + 1) (idle + 1) := by
  unfold rdE at hE
  rw [if_neg (by omega)] at hE
  by_cases h1 : 0 ≤ f ∧ (pl : Int) = f
  · rw [if_pos h1] at hE; omega
  rw [if_neg h1] at hE
  by_cases h2 : pl = D.length
  · rw [if_pos h2] at hE; omega
  have hT : rdT D C f pl tq n = tq + 1 := by unfold rdT; rw [if_neg (by omega), if_neg h1, if_neg h2]
  unfold rdK at hK
  rw [if_neg (by omega), if_neg h1, if_neg h2] at hK
  have hA : 0 < rdA D pl n := by unfold rdA; split <;> omega
  have hB : 0 < rdB D f pl n := by
    unfold rdB
    split
    · rename_i h3
      have := hf h3
      have h4 : ¬ (pl : Int) = f := fun e => h1 ⟨h3, e⟩
      split <;> omega
    · exact hA
  have hM : rdM D C f pl tq n ≤ 0 := by omega
  unfold rdM at hM
  split at hM
  · omega
  · rename_i hC
    refine ⟨hT, by have := h.1; omega, fun _ => hC, fun x hx1 hx2 => ?_⟩
    by_cases hx : x = tq
    · subst hx
      split at hM <;> omega
    · exact h.2.2 x (by omega) (by omega)
end Go.Proofs.YtdgfbamhnmnliaaDoor.A
