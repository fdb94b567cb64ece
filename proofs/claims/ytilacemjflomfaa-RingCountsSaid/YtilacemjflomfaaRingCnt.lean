/- Counting the irreducible polynomials of a piece: what is told by the kernel's run is Rabin's test. -/
import Derived.Test.YtilacemjflomfaaRingFns3
namespace Go.Proofs.Ytilacemjflomfaa.R
open Go.RowKit Go.Proofs.YtilacemjflomfaaW.PrintWords Go.Proofs.YtilacemjflomfaaW.PrintLast Go.Proofs.YtilacemjflomfaaW.PrintMore Go.Proofs.Ytilacemjflomfaa.Q GP
/-- How many of p, p + 1, .., p + n - 1 the printed Irreducible finds irreducible, at 60 rounds. -/
def tell (p : Nat) : Nat → Option Nat
  | 0 => some 0
  | n + 1 => match ring_Irreducible.f 60 (p : Int), tell (p + 1) n with
    | some (true, _), some c => some (c + 1)
    | some (false, _), some c => some c
    | _, _ => none
open Classical in
/-- How many of p, .., p + n - 1 pass Rabin's test. -/
noncomputable def R (p : Nat) : Nat → Nat
  | 0 => 0
  | n + 1 => (if Rabin p then 1 else 0) + R (p + 1) n
theorem R_add (p m : Nat) : ∀ n, R p (m + n) = R p m + R (p + m) n := by
  induction m generalizing p with
  | zero => intro n; simp [R]
  | succ m ih => intro n; rw [show m + 1 + n = (m + n) + 1 from by omega, R, R, ih, show p + 1 + m = p + (m + 1) from by omega, Nat.add_assoc]
theorem Ev.one {α : Type} {g : Nat → Option α} {r q : α} (h : Ev g r) (k : Ev g q) : r = q := by
  obtain ⟨K, h⟩ := h
  obtain ⟨L, k⟩ := k
  have h1 := h (max K L) (by omega)
  have h2 := k (max K L) (by omega)
  rw [h1] at h2
  exact Option.some.inj h2
theorem R_of_tell : ∀ (n p c : Nat), 2 ≤ p → p + n ≤ 2 ^ 33 → tell p n = some c → R p n = c := by
  intro n
  induction n with
  | zero => intro p c _ _ h; simp only [tell, Option.some.injEq] at h; rw [R, h]
  | succ n ih =>
    intro p c hp hpn h
    have h2 : 2 ≤ bl p := (lt_bl (n := 1)).2 hp
    have h3 : bl p ≤ 33 := bl_le.2 (by omega)
    simp only [tell] at h
    split at h
    · rename_i x c' h4 h5
      have hr : Rabin p := by
        apply Classical.byContradiction
        intro hr
        have := Ev.one (Irreducible_false h2 h3 hr) (Ev.of (fun k => ring_Irreducible.mono p k) h4)
        simp at this
      rw [R, if_pos hr, ih (p + 1) c' (by omega) (by omega) h5]
      have := Option.some.inj h
      omega
    · rename_i x c' h4 h5
      have hr : ¬ Rabin p := by
        intro hr
        have := Ev.one (Irreducible_true h2 h3 hr) (Ev.of (fun k => ring_Irreducible.mono p k) h4)
        simp at this
      rw [R, if_neg hr, ih (p + 1) c' (by omega) (by omega) h5]
      have := Option.some.inj h
      omega
    · cases h
end Go.Proofs.Ytilacemjflomfaa.R
