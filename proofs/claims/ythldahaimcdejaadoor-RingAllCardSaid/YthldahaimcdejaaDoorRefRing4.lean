/- What the document's functions of the ring compute, fourth part. -/
import Derived.Test.YthldahaimcdejaaDoorRefRing3
import Derived.Test.YthldahaimcdejaaDoorRF

namespace Go.Proofs.YthldahaimcdejaaDoor.R
open Go.RowKit Go.Proofs.YthldahaimcdejaaDoorW.PrintWords Go.Proofs.YthldahaimcdejaaDoorW.PrintLast Go.Proofs.YthldahaimcdejaaDoorW.PrintMore Go.Proofs.YthldahaimcdejaaDoor.A GP
set_option linter.unusedVariables false
set_option linter.unusedSimpArgs false
theorem rIrreducible {p : Nat} (hp : 2 ≤ bl p) (hp2 : bl p ≤ 33) : (Irr p → Ev (fun k => culletref01_Irreducible.f k p) (true, (0 : Int))) ∧ (¬ Irr p → Ev (fun k => culletref01_Irreducible.f k p) (false, (0 : Int))) := by
  have hp64 : p < 2 ^ 64 := bl_le.1 (by omega)
  obtain ⟨i1, i2⟩ := rirreducible hp hp2
  unfold culletref01_Irreducible.f
  refine ⟨fun h => Ev.bind (rmod_yes (m := 32) hp64 ⟨hp, by omega⟩) ?_, fun h => Ev.bind (rmod_yes (m := 32) hp64 ⟨hp, by omega⟩) ?_⟩
  · simp only [if_true]; exact Ev.bind (i1 h) (Ev.now _)
  · simp only [if_true]; exact Ev.bind (i2 h) (Ev.now _)
theorem rIrreducible_no {p : Nat} (hp : p < 2 ^ 64) (h : ¬ (2 ≤ bl p ∧ bl p ≤ 33)) : Ev (fun k => culletref01_Irreducible.f k p) (false, (11 : Int)) := by
  unfold culletref01_Irreducible.f
  exact Ev.bind (rmod_no (m := 32) hp h) (Ev.now _)
theorem rOrder {a p N : Nat} (ha : a < 2 ^ 64) (hp : 2 ≤ bl p) (hp2 : bl p ≤ 17) (hg : pgcd a p = 1) (hN : IsOrd a p N) (hlt : N < 65536) : Ev (fun k => culletref01_Order.f k a p) ((N : Nat), (0 : Int)) := by
  have hp64 : p < 2 ^ 64 := bl_le.1 (by omega)
  unfold culletref01_Order.f
  refine Ev.bind (rmod_yes (m := 16) hp64 ⟨hp, by omega⟩) ?_
  simp only [if_true]
  refine Ev.bind (rgcd ha hp64) ?_
  simp only [hg, if_pos (show ((1 : Nat) : Int) = 1 from rfl)]
  exact Ev.bind (rorder ha hp (by omega) hN hlt) (Ev.now _)
theorem rOrder_non {a p : Nat} (ha : a < 2 ^ 64) (hp : 2 ≤ bl p) (hp2 : bl p ≤ 17) (hg : pgcd a p ≠ 1) : Ev (fun k => culletref01_Order.f k a p) ((0 : Int), (12 : Int)) := by
  have hp64 : p < 2 ^ 64 := bl_le.1 (by omega)
  unfold culletref01_Order.f
  refine Ev.bind (rmod_yes (m := 16) hp64 ⟨hp, by omega⟩) ?_
  simp only [if_true]
  refine Ev.bind (rgcd ha hp64) ?_
  simp only [if_neg (show ¬ ((pgcd a p : Nat) : Int) = 1 by omega)]
  exact Ev.now _
theorem rOrder_no {p : Nat} (a : Int) (hp : p < 2 ^ 64) (h : ¬ (2 ≤ bl p ∧ bl p ≤ 17)) : Ev (fun k => culletref01_Order.f k a p) ((0 : Int), (11 : Int)) := by
  unfold culletref01_Order.f
  exact Ev.bind (rmod_no (m := 16) hp h) (Ev.now _)
theorem rPrimitive_no {p : Nat} (hp : p < 2 ^ 64) (h : ¬ (2 ≤ bl p ∧ bl p ≤ 17)) : Ev (fun k => culletref01_Primitive.f k p) (false, (11 : Int)) := by
  unfold culletref01_Primitive.f
  exact Ev.bind (rmod_no (m := 16) hp h) (Ev.now _)
theorem rPrimitive_red {p : Nat} (hp : 2 ≤ bl p) (hp2 : bl p ≤ 17) (h : ¬ Irr p) : Ev (fun k => culletref01_Primitive.f k p) (false, (0 : Int)) := by
  unfold culletref01_Primitive.f
  refine Ev.bind (rmod_yes (m := 16) (bl_le.1 (by omega)) ⟨hp, by omega⟩) ?_
  simp only [if_true]
  refine Ev.bind ((rirreducible hp (by omega)).2 h) ?_
  exact Ev.now _
theorem rPrimitive_irr {p d : Nat} (hd : bl p = d + 1) (h1d : 1 ≤ d) (h16 : d ≤ 16) (h : Irr p) (n : Int) (ho : Ev (fun k => culletref01_order.f k 2 p) n) : Ev (fun k => culletref01_Primitive.f k p) (decide (n = ((2 ^ d - 1 : Nat) : Int)), (0 : Int)) := by
  have hp64 : p < 2 ^ 64 := bl_le.1 (by omega)
  unfold culletref01_Primitive.f
  refine Ev.bind (rmod_yes (m := 16) hp64 ⟨by omega, by omega⟩) ?_
  simp only [if_true]
  refine Ev.bind ((rirreducible (by omega) (by omega)).1 h) ?_
  simp only [if_true]
  refine Ev.bind ho ?_
  refine Ev.bind (rdeg hp64) ?_
  rw [show (bl p : Int) - 1 = ((d : Nat) : Int) by omega, u64_wrap_nat (by omega)]
  simp only [if_pos (show (0 : Int) ≤ ((d : Nat) : Int) by omega)]
  have hsh : shl .i64 1 ((d : Nat) : Int) = ((2 ^ d : Nat) : Int) := by
    unfold shl
    rw [Int.toNat_natCast, show IntKind.i64.bits = 64 from rfl, Nat.min_eq_left (by omega), IntKind.wrap_i64]
    have h2 : 2 ^ d ≤ 2 ^ 16 := Nat.pow_le_pow_right (by decide) h16
    have h3 : ((2 : Int) ^ d) = ((2 ^ d : Nat) : Int) := by simp
    rw [h3]
    generalize (2 ^ d : Nat) = z at h2 ⊢
    omega
  have h2 : 2 ^ d ≤ 2 ^ 16 := Nat.pow_le_pow_right (by decide) h16
  have h3 := Nat.two_pow_pos d
  rw [hsh, wrap64_id (by omega) (by omega)]
  have e3 : ((2 ^ d : Nat) : Int) - 1 = ((2 ^ d - 1 : Nat) : Int) := by omega
  rw [e3]
  have e4 : (n == ((2 ^ d - 1 : Nat) : Int)) = decide (n = ((2 ^ d - 1 : Nat) : Int)) := by rw [Bool.eq_iff_iff]; simp
  rw [e4]
  exact Ev.now _
end Go.Proofs.YthldahaimcdejaaDoor.R
