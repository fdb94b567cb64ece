import Derived.Test.YtkdoilmfchlpdaaZ7
import Derived.Outline
import Derived.BigQuiet
import Derived.Deep.QuietTactic
namespace Go.Proofs.Ytkdoilmfchlpdaa.A
open Go.Proofs.Ytkdoilmfchlpdaa
open Go.RowKit Go.Deep Go.Proofs.YtkdoilmfchlpdaaW.PrintWords Go.Proofs.YtkdoilmfchlpdaaW.PrintLast Go.Proofs.YtkdoilmfchlpdaaW.PrintMore
set_option linter.unusedVariables false
set_option linter.unusedSimpArgs false
/-! The tables of gf16: Inv, Mul, Div (reached by a bound method alone). -/
def gf16_Tables_Inv.f (a0 : Int) : Option (Int × Int) := if 0 ≤ a0 ∧ a0 ≤ 65535 then (if a0 = 0 then some (0, 20) else (tab16.lg 65535 a0.toNat).bind fun la => some (((tab16.pw ((65535 - la) % 65535) : Nat) : Int), 0)) else none
set_option maxHeartbeats 4000000 in
set_option maxRecDepth 100000 in
theorem gf16_Tables_Inv.calls (g : Nat) (a0 r1 r2 : Int) (w : World) (hI : IsS111 w w g) (h : gf16_Tables_Inv.f a0 = some (r1, r2)) : Calls Try.prog 74 #[.pointer (some ⟨g, 0, none⟩), .int .u16 a0] w fun e w' => e = .returned (.tuple #[.int .u16 r1, .int .i64 r2]) ∧ Drawn0 w w' := by
  unfold gf16_Tables_Inv.f at h
  by_cases hr : 0 ≤ a0 ∧ a0 ≤ 65535
  · rw [if_pos hr] at h
    obtain ⟨a, rfl⟩ : ∃ a : Nat, a0 = (a : Int) := ⟨a0.toNat, by omega⟩
    by_cases h0 : (a : Int) = 0
    · rw [if_pos h0] at h
      obtain ⟨rfl, rfl⟩ := Prod.mk.inj (Option.some.inj h)
      have hz : ((a : Int) == 0) = true := beq_iff_eq.2 h0
      clear h0 h hr
      go_enter Try.func74, Try.ntmps74
      go_wp2
      refine bodyPost_ret (results_tmp2 rfl _ _ _) rfl ?_
      exact ⟨rfl, Drawn0.refl _⟩
    · rw [if_neg h0, Int.toNat_natCast] at h
      have hz : ((a : Int) == 0) = false := beq_eq_false_iff_ne.2 h0
      obtain ⟨la, hla, h⟩ := Option.bind_eq_some_iff.1 h
      obtain ⟨rfl, rfl⟩ := Prod.mk.inj (Option.some.inj h)
      have c1 := hI.log hla
      have l1 := tab16.lg_lt _ _ _ hla
      have c3 := hI.exp (j := (65535 - la) % 65535) (Nat.mod_lt _ (by decide))
      have ha : a < 65536 := by omega
      generalize tab16.pw ((65535 - la) % 65535) = p at c3 ⊢
      obtain ⟨m, hm⟩ : ∃ m : Nat, (65535 : Int) - (la : Int) = (m : Int) := ⟨65535 - la, by omega⟩
      have hm2 : 65535 - la = m := by omega
      rw [hm2] at c3
      have hml : m ≤ 65535 := by omega
      clear hI hla h h0 hr hm2
      go_enter Try.func74, Try.ntmps74
      go_wp2
      go_quiet (fail)
      go_wp2
      refine bodyPost_ret (results_tmp2 rfl _ _ _) rfl ?_
      exact ⟨rfl, ⟨_, rfl⟩⟩
  · rw [if_neg hr] at h; cases h
def gf16_Tables_Mul.f (a0 a1 : Int) : Option Int := if 0 ≤ a0 ∧ a0 ≤ 65535 ∧ 0 ≤ a1 ∧ a1 ≤ 65535 then (if a0 = 0 then some 0 else if a1 = 0 then some 0 else (tab16.lg 65535 a0.toNat).bind fun la => (tab16.lg 65535 a1.toNat).bind fun lb => some ((tab16.pw ((la + lb) % 65535) : Nat) : Int)) else none
set_option maxHeartbeats 4000000 in
set_option maxRecDepth 100000 in
theorem gf16_Tables_Mul.calls (g : Nat) (a0 a1 r : Int) (w : World) (hI : IsS111 w w g) (h : gf16_Tables_Mul.f a0 a1 = some r) : Calls Try.prog 75 #[.pointer (some ⟨g, 0, none⟩), .int .u16 a0, .int .u16 a1] w fun e w' => e = .returned (.int .u16 r) ∧ Drawn0 w w' := by
  unfold gf16_Tables_Mul.f at h
  by_cases hr : 0 ≤ a0 ∧ a0 ≤ 65535 ∧ 0 ≤ a1 ∧ a1 ≤ 65535
  · rw [if_pos hr] at h
    obtain ⟨a, rfl⟩ : ∃ a : Nat, a0 = (a : Int) := ⟨a0.toNat, by omega⟩
    obtain ⟨b, rfl⟩ : ∃ b : Nat, a1 = (b : Int) := ⟨a1.toNat, by omega⟩
    by_cases h0 : (a : Int) = 0
    · rw [if_pos h0] at h
      obtain rfl := Option.some.inj h
      have hz : ((a : Int) == 0) = true := beq_iff_eq.2 h0
      clear h0 h hr
      go_enter Try.func75, Try.ntmps75
      go_wp2
      go_ret
      exact ⟨rfl, Drawn0.refl _⟩
    · rw [if_neg h0] at h
      have hz : ((a : Int) == 0) = false := beq_eq_false_iff_ne.2 h0
      by_cases h1 : (b : Int) = 0
      · rw [if_pos h1] at h
        obtain rfl := Option.some.inj h
        have hz1 : ((b : Int) == 0) = true := beq_iff_eq.2 h1
        clear h0 h h1 hr
        go_enter Try.func75, Try.ntmps75
        go_wp2
        go_ret
        exact ⟨rfl, Drawn0.refl _⟩
      · rw [if_neg h1, Int.toNat_natCast, Int.toNat_natCast] at h
        have hz1 : ((b : Int) == 0) = false := beq_eq_false_iff_ne.2 h1
        obtain ⟨la, hla, h⟩ := Option.bind_eq_some_iff.1 h
        obtain ⟨lb, hlb, h⟩ := Option.bind_eq_some_iff.1 h
        obtain rfl := Option.some.inj h
        have c1 := hI.log hla
        have c2 := hI.log hlb
        have c3 := hI.exp (j := (la + lb) % 65535) (Nat.mod_lt _ (by decide))
        have l1 := tab16.lg_lt _ _ _ hla
        have l2 := tab16.lg_lt _ _ _ hlb
        have ha : a < 65536 := by omega
        have hb : b < 65536 := by omega
        generalize tab16.pw ((la + lb) % 65535) = p at c3 ⊢
        clear hI hla hlb h h0 h1 hr
        go_enter Try.func75, Try.ntmps75
        go_wp2
        go_quiet (fail)
        go_wp2
        go_ret
        exact ⟨rfl, ⟨_, rfl⟩⟩
  · rw [if_neg hr] at h; cases h

theorem mul_is {a b : Nat} (ha : a < 65536) (hb : b < 65536) : gf16_Tables_Mul.f a b = some ((R.m16 a b : Nat) : Int) := by
  unfold gf16_Tables_Mul.f
  rw [if_pos (by omega), Int.toNat_natCast, Int.toNat_natCast]
  by_cases h0 : a = 0
  · subst h0
    rw [if_pos (show ((0 : Nat) : Int) = 0 from rfl), R.m16_comm, R.m16_zero]; rfl
  · rw [if_neg (by omega)]
    by_cases h1 : b = 0
    · subst h1
      rw [if_pos (show ((0 : Nat) : Int) = 0 from rfl), R.m16_zero]; rfl
    · rw [if_neg (by omega)]
      obtain ⟨i, hi, ei, li⟩ := R.log16 ha h0
      obtain ⟨j, hj, ej, lj⟩ := R.log16 hb h1
      rw [li, lj, Option.bind_some, Option.bind_some, R.pw16_mod, R.pw16_add, ei, ej]
theorem inv_is {a : Nat} (ha : a < 65536) (h0 : a ≠ 0) : gf16_Tables_Inv.f a = some (((R.i16 a : Nat) : Int), (0 : Int)) := by
  unfold gf16_Tables_Inv.f
  obtain ⟨i, hi, ei, li⟩ := R.log16 ha h0
  rw [if_pos (by omega), if_neg (by omega), Int.toNat_natCast, li, Option.bind_some]
  have e : R.m16 (tab16.pw ((65535 - i) % 65535)) a = 1 := by
    rw [R.pw16_mod, ← ei, ← R.pw16_add, show 65535 - i + i = 65535 by omega, ← R.pw16_mod]; rfl
  rw [show tab16.pw ((65535 - i) % 65535) = R.i16 a from GP.inv_unique GP.irr16 GP.bl65581 ha (tab16.pw_lt _) e]
set_option maxHeartbeats 1000000 in
theorem tdiv16 (g a b : Nat) (ha : a < 65536) (hb : b < 65536) (h0 : b ≠ 0) (w : World) (hI : IsS111 w w g) :
    Calls Try.prog 54 #[.pointer (some ⟨g, 0, none⟩), .int .u16 (a : Int), .int .u16 (b : Int)] w fun e w' => e = .returned (.tuple #[.int .u16 ((R.m16 a (R.i16 b) : Nat) : Int), .int .i64 0]) ∧ Drawn0 w w' := by
  have HI := Aside0.mk hI
  have H1 := Aside0.mk (inv_is hb h0)
  obtain ⟨c, hc⟩ : ∃ c, c = R.i16 b := ⟨_, rfl⟩
  have hcl : c < 65536 := by rw [hc]; exact R.i16_lt _
  rw [← hc] at H1 ⊢
  have H2 := Aside0.mk (mul_is ha hcl)
  clear hI hc
  go_enter Try.func54, Try.ntmps54
  go_wp2_with (first
    | (go_at_call 74; refine (gf16_Tables_Inv.calls g _ _ _ _ HI.out H1.out).mono ?_; rintro e w' ⟨rfl, hD⟩; obtain ⟨n1, rfl⟩ := hD.out)
    | (go_at_call 75; refine (gf16_Tables_Mul.calls g _ _ _ _ (HI.out.drewN _) H2.out).mono ?_; rintro e w' ⟨rfl, hD⟩; obtain ⟨n2, rfl⟩ := hD.out))
  refine bodyPost_ret (results_tmp2 rfl _ _ _) rfl ?_
  exact ⟨rfl, ⟨_, rfl⟩⟩
end Go.Proofs.Ytkdoilmfchlpdaa.A
