/-
RingNames: the closed law: the errors' numbers, the two moduli, that they are irreducible and primitive, with x of the order 255 and 65535. No condition.
-/
import Derived.Test.YtilacemjflomfaaRingFns3
import Derived.Test.YtilacemjflomfaaQx10
namespace Go.Proofs.Ytilacemjflomfaa.Pure
open Go.RowKit Go.Proofs.Ytilacemjflomfaa.Q Go.Proofs.YtilacemjflomfaaW.PrintWords Go.Proofs.YtilacemjflomfaaW.PrintLast Go.Proofs.YtilacemjflomfaaW.PrintMore Go.Proofs.Ytilacemjflomfaa.R GP
set_option linter.unusedVariables false
set_option linter.unusedSimpArgs false

theorem Ev.one' {α : Type} {g : Nat → Option α} {r q : α} (h : Ev g r) (k : Ev g q) : r = q := by
  obtain ⟨K, h⟩ := h
  obtain ⟨L, k⟩ := k
  have h1 := h (max K L) (by omega)
  have h2 := k (max K L) (by omega)
  rw [h1] at h2
  exact Option.some.inj h2
theorem irr285 : Ev (fun k => ring_Irreducible.f k 285) (true, 0) := Ev.of (fun k => ring_Irreducible.mono 285 k) (k := 100) (by decide +kernel)
theorem irr65581 : Ev (fun k => ring_Irreducible.f k 65581) (true, 0) := Ev.of (fun k => ring_Irreducible.mono 65581 k) (k := 100) (by decide +kernel)
theorem bl16 : bl 65581 = 17 := bl_eq (n := 16) (by decide) (by decide)
theorem bl8 : bl 285 = 9 := bl_eq (n := 8) (by decide) (by decide)
theorem rabin8 : Rabin 285 := by
  apply Classical.byContradiction
  intro h
  have := Ev.one' irr285 (Irreducible_false (p := 285) (by rw [bl8]; decide) (by rw [bl8]; decide) h)
  simp at this
theorem rabin16 : Rabin 65581 := by
  apply Classical.byContradiction
  intro h
  have := Ev.one' irr65581 (Irreducible_false (p := 65581) (by rw [bl16]; decide) (by rw [bl16]; decide) h)
  simp at this
theorem pow_val (n : Nat) (v : Int) (hn : n < 2 ^ 64) (h : ring_PowMod.f 100 2 (n : Int) 65581 = some (v, 0)) : ((pmod (pp 2 n) 65581 : Nat) : Int) = v := by
  have h1 := PowMod (a := 2) (n := n) (p := 65581) (by decide) hn (by rw [bl16]; decide) (by rw [bl16]; decide)
  have h2 := Ev.of (fun k => ring_PowMod.mono 2 (n : Int) 65581 k) h
  have := Ev.one' h1 h2
  simp only [Prod.mk.injEq, and_true] at this
  exact this
theorem coprime_of_mod {m q : Nat} (h : m % q ≠ 0) (hq : ∀ r, r < q → r ≠ 0 → Nat.gcd r q = 1) (hq0 : 0 < q) : Nat.Coprime m q := by
  unfold Nat.Coprime
  rw [Nat.gcd_comm, Nat.gcd_rec]
  exact hq _ (Nat.mod_lt _ hq0) h
theorem g3 : ∀ r, r < 3 → r ≠ 0 → Nat.gcd r 3 = 1 := by decide
theorem g5 : ∀ r, r < 5 → r ≠ 0 → Nat.gcd r 5 = 1 := by decide
theorem g17 : ∀ r, r < 17 → r ≠ 0 → Nat.gcd r 17 = 1 := by decide
theorem g257 : ∀ r, r < 257 → r ≠ 0 → Nat.gcd r 257 = 1 := by decide +kernel
theorem full_order {n : Nat} (h : n ∣ 65535) (h3 : ¬ n ∣ 21845) (h5 : ¬ n ∣ 13107) (h17 : ¬ n ∣ 3855) (h257 : ¬ n ∣ 255) : n = 65535 := by
  obtain ⟨m, hm⟩ := h
  have div : ∀ q r, 65535 = q * r → 0 < q → m % q = 0 → n ∣ r := by
    intro q r hqr hq hmq
    obtain ⟨c, rfl⟩ := Nat.dvd_of_mod_eq_zero hmq
    refine ⟨c, ?_⟩
    apply Nat.eq_of_mul_eq_mul_left hq
    rw [← hqr, hm, Nat.mul_left_comm]
  have c3 := coprime_of_mod (m := m) (fun e => h3 (div 3 21845 (by decide) (by decide) e)) g3 (by decide)
  have c5 := coprime_of_mod (m := m) (fun e => h5 (div 5 13107 (by decide) (by decide) e)) g5 (by decide)
  have c17 := coprime_of_mod (m := m) (fun e => h17 (div 17 3855 (by decide) (by decide) e)) g17 (by decide)
  have c257 := coprime_of_mod (m := m) (fun e => h257 (div 257 255 (by decide) (by decide) e)) g257 (by decide)
  have d0 : m ∣ 3 * 21845 := ⟨n, by rw [Nat.mul_comm m n, ← hm]⟩
  have d1 : m ∣ 5 * 4369 := c3.dvd_of_dvd_mul_left d0
  have d2 : m ∣ 17 * 257 := c5.dvd_of_dvd_mul_left d1
  have d3 : m ∣ 257 * 1 := c17.dvd_of_dvd_mul_left d2
  have d4 : m ∣ 1 := c257.dvd_of_dvd_mul_left d3
  have : m = 1 := Nat.dvd_one.1 d4
  rw [this, Nat.mul_one] at hm
  exact hm.symm
theorem gcd2 : pgcd 2 65581 = 1 := by
  have h1 := gcd (a := 2) (b := 65581) (by decide) (by decide)
  have h2 : Ev (fun k => ring_Gcd.f k 2 65581) 1 := Ev.of (fun k => ring_Gcd.mono 2 65581 k) (k := 100) (by decide +kernel)
  have := Ev.one' h1 h2
  omega
theorem isOrd16 : IsOrd 2 65581 65535 := by
  have hlo : 2 ≤ bl 65581 := by rw [bl16]; decide
  obtain ⟨N, hN, _⟩ := isOrd_exists (d := 16) bl16 (by decide) gcd2
  have key : ∀ (m : Nat) (v : Int), m < 2 ^ 64 → ring_PowMod.f 100 2 (m : Int) 65581 = some (v, 0) → v ≠ 1 → ¬ N ∣ m := by
    intro m v hm hv hne hd
    obtain ⟨c, rfl⟩ := hd
    have e := pow_val _ v hm hv
    have hp0 : (65581 : Nat) ≠ 0 := by decide
    rw [pp_mul, ← pp_pmod hp0, hN.2.1, one_pp, pmod_small (a := 1) (by rw [bl_one, bl16]; decide)] at e
    exact hne e.symm
  have h1 : N ∣ 65535 := hN.dvd hlo (by
    have := pow_val 65535 1 (by decide) (by decide +kernel)
    omega)
  have : N = 65535 := full_order h1
    (key 21845 44234 (by decide) (by decide +kernel) (by decide +kernel))
    (key 13107 34554 (by decide) (by decide +kernel) (by decide +kernel))
    (key 3855 44212 (by decide) (by decide +kernel) (by decide +kernel))
    (key 255 197 (by decide) (by decide +kernel) (by decide +kernel))
  rw [← this]
  exact hN
theorem ord8 : Ev (fun k => ring_Order.f k 2 285) (255, 0) := Ev.of (fun k => ring_Order.mono 2 285 k) (k := 400) (by decide +kernel)
theorem ord16 : Ev (fun k => ring_Order.f k 2 65581) (65535, 0) :=
  Order (a := 2) (p := 65581) (N := 65535) (by decide) (by rw [bl16]; decide) (by rw [bl16]; decide) gcd2 isOrd16 (by decide)
theorem prim8 : Ev (fun k => ring_Primitive.f k 285) (true, 0) := by
  have := Primitive_irr (p := 285) (d := 8) bl8 (by decide) (by decide) rabin8 255 0 ord8
  simpa using this
theorem prim16 : Ev (fun k => ring_Primitive.f k 65581) (true, 0) := by
  have := Primitive_irr (p := 65581) (d := 16) bl16 (by decide) (by decide) rabin16 65535 0 ord16
  simpa using this
theorem RingNames : culletlaw01_RingNames.Pure := by
  apply Ev.rounds
  unfold culletlaw01_RingNames.f
  refine Ev.bind irr285 ?_
  refine Ev.bind irr65581 ?_
  simp only [if_true, bne_self_eq_false]
  refine Ev.step (fun k => culletlaw01_RingNames.j0.eq_2 _ k) ?_
  simp only [Bool.false_eq_true, if_false]
  refine Ev.bind prim8 ?_
  refine Ev.bind prim16 ?_
  simp only [if_true, bne_self_eq_false]
  refine Ev.step (fun k => culletlaw01_RingNames.j1.eq_2 _ k) ?_
  simp only [Bool.false_eq_true, if_false]
  refine Ev.bind ord8 ?_
  refine Ev.bind ord16 ?_
  simp only [if_true, beq_self_eq_true]
  exact Ev.now _
end Go.Proofs.Ytilacemjflomfaa.Pure
