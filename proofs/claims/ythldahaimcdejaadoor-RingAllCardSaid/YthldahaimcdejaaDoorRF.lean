/- The document's product and division, in the form that the printed texts ask. -/
import Derived.Test.YthldahaimcdejaaDoorRE

namespace Go.Proofs.YthldahaimcdejaaDoor.A
open Go.RowKit Go.Deep Go.Proofs.YthldahaimcdejaaDoor.R Go.Proofs.YthldahaimcdejaaDoorW.PrintWords Go.Proofs.YthldahaimcdejaaDoorW.PrintLast Go.Proofs.YthldahaimcdejaaDoorW.PrintMore GP
set_option linter.unusedVariables false
set_option linter.unusedSimpArgs false
set_option maxHeartbeats 4000000 in
set_option maxRecDepth 100000 in
theorem divmod_zero (a : Nat) (w : World) : Calls Tryd.prog 22 #[.int .u64 (a : Int), .int .u64 0] w fun e w' => e = .returned (.tuple #[.int .u64 0, .int .u64 0, .int .i64 10]) ∧ Below w.heap.size w w' := by
  obtain ⟨kd, hkd⟩ := (rdeg (a := 0) (by decide)).rounds
  rw [bl_zero] at hkd
  have HK := Aside0.mk hkd
  clear hkd
  go_enter Tryd.func22, Tryd.ntmps22
  go_wp2_with fail
  refine (culletref01_Degree.calls kd 0 _ _ HK.out).mono ?_
  rintro _ w0 ⟨rfl, ⟨nd, rfl⟩⟩
  go_wp2_with fail
  go_ret3
  exact ⟨rfl, pw_below_drewN (Below.refl _ _) nd⟩
def culletref01_Mul.f (a0 : Int) (a1 : Int) : Option (Int) := if (0 ≤ a0 ∧ a0 < 4294967296) ∧ 0 ≤ a1 ∧ a1 < 4294967296 then some ((cl a0.toNat a1.toNat : Nat) : Int) else none
def culletref01_DivMod.f (a0 : Int) (a1 : Int) : Option (Int × Int × Int) := if (0 ≤ a0 ∧ a0 < 18446744073709551616) ∧ 0 ≤ a1 ∧ a1 < 18446744073709551616 then (if a1 = 0 then some (0, 0, 10) else some (((pquo a0.toNat a1.toNat : Nat) : Int), ((pmod a0.toNat a1.toNat : Nat) : Int), 0)) else none
theorem culletref01_Mul.calls (a0 : Int) (a1 : Int) (r : Int) (w : World) (h : culletref01_Mul.f a0 a1 = some r) : Calls Tryd.prog 20 #[.int .u32 a0, .int .u32 a1] w fun e w' => e = .returned (.int .u64 r) ∧ Below w.heap.size w w' := by
  unfold culletref01_Mul.f at h
  by_cases hc : (0 ≤ a0 ∧ a0 < 4294967296) ∧ 0 ≤ a1 ∧ a1 < 4294967296
  · rw [if_pos hc] at h
    obtain ⟨a, rfl⟩ := Int.eq_ofNat_of_zero_le hc.1.1
    obtain ⟨b, rfl⟩ := Int.eq_ofNat_of_zero_le hc.2.1
    have := mul_walk a b (by omega) (by omega) w
    rw [Int.toNat_natCast, Int.toNat_natCast] at h
    rw [← Option.some.inj h]
    exact this
  · rw [if_neg hc] at h; cases h
theorem culletref01_DivMod.calls (a0 : Int) (a1 : Int) (r1 r2 r3 : Int) (w : World) (h : culletref01_DivMod.f a0 a1 = some (r1, r2, r3)) : Calls Tryd.prog 22 #[.int .u64 a0, .int .u64 a1] w fun e w' => e = .returned (.tuple #[.int .u64 r1, .int .u64 r2, .int .i64 r3]) ∧ Below w.heap.size w w' := by
  unfold culletref01_DivMod.f at h
  by_cases hc : (0 ≤ a0 ∧ a0 < 18446744073709551616) ∧ 0 ≤ a1 ∧ a1 < 18446744073709551616
  · rw [if_pos hc] at h
    obtain ⟨a, rfl⟩ := Int.eq_ofNat_of_zero_le hc.1.1
    obtain ⟨b, rfl⟩ := Int.eq_ofNat_of_zero_le hc.2.1
    by_cases hb : ((b : Nat) : Int) = 0
    · rw [if_pos hb] at h
      have h' := Option.some.inj h
      simp only [Prod.mk.injEq] at h'
      obtain ⟨rfl, rfl, rfl⟩ := h'
      rw [hb]
      exact divmod_zero a w
    · rw [if_neg hb] at h
      have h' := Option.some.inj h
      simp only [Prod.mk.injEq, Int.toNat_natCast] at h'
      obtain ⟨rfl, rfl, rfl⟩ := h'
      exact divmod_walk a b (by omega) (by omega) (by omega) w
  · rw [if_neg hc] at h; cases h
theorem RefMul {a b : Nat} (ha : a < 2 ^ 32) (hb : b < 2 ^ 32) : culletref01_Mul.f a b = some ((cl a b : Nat) : Int) := by
  unfold culletref01_Mul.f
  rw [if_pos (by omega), Int.toNat_natCast, Int.toNat_natCast]
theorem RefDivMod {a b : Nat} (ha : a < 2 ^ 64) (hb : b < 2 ^ 64) (h0 : b ≠ 0) : culletref01_DivMod.f a b = some (((pquo a b : Nat) : Int), ((pmod a b : Nat) : Int), 0) := by
  unfold culletref01_DivMod.f
  rw [if_pos (by omega), if_neg (by omega), Int.toNat_natCast, Int.toNat_natCast]
theorem RefDivMod_zero {a : Nat} (ha : a < 2 ^ 64) : culletref01_DivMod.f a 0 = some (0, 0, 10) := by
  unfold culletref01_DivMod.f
  rw [if_pos (by omega), if_pos rfl]
end Go.Proofs.YthldahaimcdejaaDoor.A
