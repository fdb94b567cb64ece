/- The document's zeros of layer 10. -/
import Derived.Test.YtidogckochpbgaaL2
import Derived.Test.YtidogckochpbgaaAx4

namespace Go.Proofs.Ytidogckochpbgaa.R
open Go.RowKit Go.Proofs.YtidogckochpbgaaW.PrintWords Go.Proofs.YtidogckochpbgaaW.PrintLast Go.Proofs.YtidogckochpbgaaW.PrintMore Go.Proofs.Ytidogckochpbgaa.A GP
set_option linter.unusedVariables false
set_option linter.unusedSimpArgs false
theorem rzeros_l0 {r c : Nat} (hc : c ≤ 281474976710656) (hr : r ≤ 11728124029610) : ∀ n i : Nat, r - i ≤ n → i ≤ r → Ev (fun k => culletref10_zeros.l0 k (r : Int) (c : Int) (List.replicate i (List.replicate c (0 : Int)) ++ List.replicate (r - i) ([] : List Int)) (i : Int)) (List.replicate r (List.replicate c (0 : Int))) := by
  have fin : ∀ i : Nat, ¬ i < r → i ≤ r → Ev (fun k => culletref10_zeros.l0 k (r : Int) (c : Int) (List.replicate i (List.replicate c (0 : Int)) ++ List.replicate (r - i) ([] : List Int)) (i : Int)) (List.replicate r (List.replicate c (0 : Int))) := by
    intro i hi hi2
    obtain rfl : i = r := by omega
    refine Ev.step (fun k => culletref10_zeros.l0.eq_2 _ _ _ _ k) ?_
    simp only [if_neg (show ¬ ((i : Nat) : Int) < (i : Int) by omega), Nat.sub_self, List.replicate_zero, List.append_nil]
    exact Ev.now _
  intro n
  induction n with
  | zero => intro i h hi; exact fin i (by omega) hi
  | succ n ih =>
    intro i h hi
    by_cases hlt : i < r
    · refine Ev.step (fun k => culletref10_zeros.l0.eq_2 _ _ _ _ k) ?_
      have hl : (List.replicate i (List.replicate c (0 : Int)) ++ List.replicate (r - i) ([] : List Int)).length = r := by simp; omega
      have hs : (List.replicate i (List.replicate c (0 : Int)) ++ List.replicate (r - i) ([] : List Int)).set i (List.replicate c (0 : Int)) = List.replicate (i + 1) (List.replicate c (0 : Int)) ++ List.replicate (r - (i + 1)) ([] : List Int) := by
        rw [List.set_append_right _ _ (by simp), List.length_replicate, Nat.sub_self, show r - i = (r - (i + 1)) + 1 by omega, List.replicate_succ, List.set_cons_zero, List.replicate_succ', List.append_assoc]
        rfl
      simp only [if_pos (show ((i : Nat) : Int) < (r : Int) by omega), if_pos (show (0 : Int) ≤ (c : Int) by omega), Int.toNat_natCast, if_pos hc, if_pos (show (0 : Int) ≤ (i : Int) by omega), hl, hs, wr64 (n := i) (by omega)]
      exact ih (i + 1) (by omega) (by omega)
    · exact fin i hlt hi
theorem RZeros {r c : Nat} (hc : c ≤ 281474976710656) (hr : r ≤ 11728124029610) : Ev (fun k => culletref10_zeros.f k (r : Int) (c : Int)) (mat r c (fun _ _ => 0)) := by
  unfold culletref10_zeros.f
  simp only [if_pos (show (0 : Int) ≤ (r : Int) by omega), Int.toNat_natCast, if_pos hr]
  rw [← replicate_mat]
  have := rzeros_l0 hc hr r 0 (by omega) (by omega)
  simpa using this
end Go.Proofs.Ytidogckochpbgaa.R
