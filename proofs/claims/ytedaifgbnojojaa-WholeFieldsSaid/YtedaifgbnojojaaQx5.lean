-- Printed for this claim by mp.py, a program of its prover, through the kit's print. Lean checks it.
import Derived.Test.YtedaifgbnojojaaQx0
import Derived.Test.YtedaifgbnojojaaQx1
import Derived.Test.YtedaifgbnojojaaQx2
import Derived.Test.YtedaifgbnojojaaQx4
namespace Go.Proofs.Ytedaifgbnojojaa.Q
open Go.RowKit Go.Proofs.YtedaifgbnojojaaW.PrintWords Go.Proofs.YtedaifgbnojojaaW.PrintLast Go.Proofs.YtedaifgbnojojaaW.PrintMore
attribute [local go_sem] max2_int min2_int max_two min_two max_three min_three max_four min_four   -- for this text's walks alone
set_option linter.unusedVariables false
set_option linter.unusedSimpArgs false

/-! ### ring_InvMod: function 37 -/
def ring_InvMod.l0 : Nat → Int → Int → Int → Int → Int → Option (Int × Int)
  | 0, _, _, _, _, _ => none
  | k + 1, x1, x7, x8, x9, x10 => if x7 = 0 then (if x8 = 1 then ((ring_divMod.f k x9 x1).bind fun bt137 => (some (bt137.2, 0))) else (some (0, 12))) else ((ring_divMod.f k x8 x7).bind fun bt139 => ((ring_mulMod.f k bt139.1 x10 x1).bind fun t141 => (ring_InvMod.l0 k x1 bt139.2 x7 x10 (Go.bits .xor .u64 x9 t141))))
def ring_InvMod.f (k : Nat) (a0 : Int) (a1 : Int) : Option (Int × Int) := (ring_isModulus.f a1 32).bind fun t134 => (if t134 = true then ((ring_divMod.f k a0 a1).bind fun bt135 => (ring_InvMod.l0 k a1 bt135.2 a1 0 1)) else (some (0, 11)))
theorem ring_InvMod.mono_l : ∀ k, (∀ y0 y1 y2 y3 y4, LeO (ring_InvMod.l0 k y0 y1 y2 y3 y4) (ring_InvMod.l0 (k + 1) y0 y1 y2 y3 y4))
  | 0 => fun _ _ _ _ _ r h => by simp [ring_InvMod.l0] at h
  | k + 1 => by
    have ih0 := ring_InvMod.mono_l k
    · intro y0 y1 y2 y3 y4
      unfold ring_InvMod.l0
      repeat' first
      | (with_reducible exact ih0 _ _ _ _ _)
      | (with_reducible exact ring_divMod.mono _ _ _)
      | (with_reducible exact ring_mulMod.mono _ _ _ _)
      | (with_reducible exact LeO.refl _)
      | (with_reducible exact LeO.none _)
      | (with_reducible refine LeO.ite ?_ ?_)
      | (with_reducible refine LeO.bind ?_ (fun _ => ?_))
      | exact ih0 _ _ _ _ _
      | exact ring_divMod.mono _ _ _
      | exact ring_mulMod.mono _ _ _ _
      | exact LeO.none _
      | refine LeO.ite ?_ ?_
      | refine LeO.bind ?_ (fun _ => ?_)
theorem ring_InvMod.mono : ∀ a0 a1 k, LeO (ring_InvMod.f k a0 a1) (ring_InvMod.f (k + 1) a0 a1) := by
  intro a0 a1 k
  have ih0 := ring_InvMod.mono_l k
  unfold ring_InvMod.f
  repeat' first
      | (with_reducible exact ih0 _ _ _ _ _)
      | (with_reducible exact ring_divMod.mono _ _ _)
      | (with_reducible exact ring_mulMod.mono _ _ _ _)
      | (with_reducible exact LeO.refl _)
      | (with_reducible exact LeO.none _)
      | (with_reducible refine LeO.ite ?_ ?_)
      | (with_reducible refine LeO.bind ?_ (fun _ => ?_))
      | exact ih0 _ _ _ _ _
      | exact ring_divMod.mono _ _ _
      | exact ring_mulMod.mono _ _ _ _
      | exact LeO.none _
      | refine LeO.ite ?_ ?_
      | refine LeO.bind ?_ (fun _ => ?_)
set_option maxHeartbeats 8000000 in
set_option maxRecDepth 100000 in
theorem ring_InvMod.calls (k : Nat) (a0 : Int) (a1 : Int) (r1 : Int) (r2 : Int) (w : World) (h : ring_InvMod.f k a0 a1 = some (r1, r2)) :
    Calls Try.prog 37 #[.int .u64 a0, .int .u64 a1] w fun e w' => e = .returned (.tuple #[.int .u64 r1, .int .i64 r2]) ∧ Drawn0 w w' := by
  have H : ((ring_isModulus.f a1 32).bind fun t134 => (if t134 = true then ((ring_divMod.f k a0 a1).bind fun bt135 => (ring_InvMod.l0 k a1 bt135.2 a1 0 1)) else (some (0, 11)))) = some (r1, r2) := h
  clear h
  replace H := Option.bind_eq_some_iff.mp H
  obtain ⟨t134, A30, H⟩ := H
  replace H : (if t134 = true then ((ring_divMod.f k a0 a1).bind fun bt135 => (ring_InvMod.l0 k a1 bt135.2 a1 0 1)) else (some (0, 11))) = some (r1, r2) := H
  have A3 := Aside0.mk A30
  clear A30
  by_cases c4 : t134 = true
  · subst c4
    have H1 : ((ring_divMod.f k a0 a1).bind fun bt135 => (ring_InvMod.l0 k a1 bt135.2 a1 0 1)) = some (r1, r2) := by rw [if_pos rfl] at H; exact H
    clear H
    have H := H1
    clear H1
    replace H := Option.bind_eq_some_iff.mp H
    obtain ⟨⟨t135, t136⟩, A50, H⟩ := H
    replace H : (ring_InvMod.l0 k a1 t136 a1 0 1) = some (r1, r2) := H
    have A5 := Aside0.mk A50
    clear A50
    have H' := Aside0.mk H
    clear H
    go_enter Try.func37, Try.ntmps37
    go_wp2_with (first | ((with_reducible refine gate_callee (f := 59) rfl ?_); refine goesL_ (some 14) rfl rfl Try.func59 (by kernel_rfl) rfl #[.int .u64 a1, .int .i64 32] rfl (by (try simp only [List.map_toArray, List.map_cons, List.map_nil]); first | done | rfl | (simp only [tb_wrap8]; done) | (simp only [tb_wrap8]; rfl) | (simp only [List.length_drop, List.length_take]; rfl)) ?_; (with_reducible refine (ring_isModulus.calls a1 32 true _ A3.out).mono ?_); rintro e w' ⟨rfl, ⟨nd, rfl⟩⟩; refine ⟨_, rfl, ?_⟩) | ((with_reducible refine gate_callee (f := 63) rfl ?_); refine goesL_ (some 19) rfl rfl Try.func63 (by kernel_rfl) rfl #[.int .u64 a0, .int .u64 a1] rfl (by (try simp only [List.map_toArray, List.map_cons, List.map_nil]); first | done | rfl | (simp only [tb_wrap8]; done) | (simp only [tb_wrap8]; rfl) | (simp only [List.length_drop, List.length_take]; rfl)) ?_; (with_reducible refine (ring_divMod.calls k a0 a1 t135 t136 _ A5.out).mono ?_); rintro e w' ⟨rfl, ⟨nd, rfl⟩⟩; refine ⟨_, rfl, ?_⟩))
    go_loopg [7, 8, 9, 10] k (fun kq v7 v8 v9 v10 w' => ∃ (x7_1 : Int) (x8_1 : Int) (x9_1 : Int) (x10_1 : Int), v7 = .int .u64 x7_1 ∧ v8 = .int .u64 x8_1 ∧ v9 = .int .u64 x9_1 ∧ v10 = .int .u64 x10_1 ∧ Aside0 (ring_InvMod.l0 kq a1 x7_1 x8_1 x9_1 x10_1 = some (r1, r2)) ∧ Aside0 (kq ≤ k) ∧ Drawn0 w w')
    case atStart => exact ⟨(t136), (a1), (0), (1), (by first | rfl | (simp; done) | (simp [*]; done)), (by first | rfl | (simp; done) | (simp [*]; done)), (by first | rfl | (simp; done) | (simp [*]; done)), (by first | rfl | (simp; done) | (simp [*]; done)), H', ⟨Nat.le_refl _⟩, by repeat (first | exact Drawn0.refl _ | apply Drawn0.step)⟩
    case round =>
      clear H'
      try clear p2
      try clear c3
      try clear c4
      try clear c5
      obtain ⟨x7_1, x8_1, x9_1, x10_1, rfl, rfl, rfl, rfl, HA, HK1, ⟨m1, rfl⟩⟩ := hrel
      cases gk with
      | zero => exact absurd HA.out (by simp [ring_InvMod.l0])
      | succ k1 =>
        have H := HA.out
        clear HA
        simp only [ring_InvMod.l0] at H
        by_cases c6 : x7_1 = 0
        · rw [if_pos c6] at H
          have c6b0 : (x7_1 == 0) = true := beq_iff_eq.mpr c6
          have c6b1 : (x7_1 != 0) = false := bne_eq_false_iff_eq.mpr c6
          clear c6
          by_cases c7 : x8_1 = 1
          · rw [if_pos c7] at H
            have c7b0 : (x8_1 == 1) = true := beq_iff_eq.mpr c7
            have c7b1 : (x8_1 != 1) = false := bne_eq_false_iff_eq.mpr c7
            clear c7
            replace H := Option.bind_eq_some_iff.mp H
            obtain ⟨⟨t137, t138⟩, A80, H⟩ := H
            replace H : (some (t138, 0)) = some (r1, r2) := H
            have A8 := Aside0.mk A80
            clear A80
            simp only [Option.some.injEq, Prod.mk.injEq] at H
            obtain ⟨rfl, rfl⟩ := H
            go_wp2_with (first | ((with_reducible refine gate_callee (f := 63) rfl ?_); refine goesL_ (some 45) rfl rfl Try.func63 (by kernel_rfl) rfl #[.int .u64 x9_1, .int .u64 a1] rfl (by (try simp only [List.map_toArray, List.map_cons, List.map_nil]); first | done | rfl | (simp only [tb_wrap8]; done) | (simp only [tb_wrap8]; rfl) | (simp only [List.length_drop, List.length_take]; rfl)) ?_; (with_reducible refine (ring_divMod.calls k1 x9_1 a1 t137 t138 _ A8.out).mono ?_); rintro e w' ⟨rfl, ⟨nd, rfl⟩⟩; refine ⟨_, rfl, ?_⟩))
            go_ret2
            exact ⟨by first | rfl | (simp; done) | (simp [*]; done), by repeat (first | exact Drawn0.refl _ | apply Drawn0.step)⟩
          · rw [if_neg c7] at H
            have c7b0 : (x8_1 == 1) = false := beq_eq_false_iff_ne.mpr c7
            have c7b1 : (x8_1 != 1) = true := bne_iff_ne.mpr c7
            simp only [Option.some.injEq, Prod.mk.injEq] at H
            obtain ⟨rfl, rfl⟩ := H
            go_wp2
            go_ret2
            exact ⟨by first | rfl | (simp; done) | (simp [*]; done), by repeat (first | exact Drawn0.refl _ | apply Drawn0.step)⟩
        · rw [if_neg c6] at H
          have c6b0 : (x7_1 == 0) = false := beq_eq_false_iff_ne.mpr c6
          have c6b1 : (x7_1 != 0) = true := bne_iff_ne.mpr c6
          replace H := Option.bind_eq_some_iff.mp H
          obtain ⟨⟨t139, t140⟩, A90, H⟩ := H
          replace H : ((ring_mulMod.f k1 t139 x10_1 a1).bind fun t141 => (ring_InvMod.l0 k1 a1 t140 x7_1 x10_1 (Go.bits .xor .u64 x9_1 t141))) = some (r1, r2) := H
          have A9 := Aside0.mk A90
          clear A90
          replace H := Option.bind_eq_some_iff.mp H
          obtain ⟨t141, A100, H⟩ := H
          replace H : (ring_InvMod.l0 k1 a1 t140 x7_1 x10_1 (Go.bits .xor .u64 x9_1 t141)) = some (r1, r2) := H
          have A10 := Aside0.mk A100
          clear A100
          have H' := Aside0.mk H
          clear H
          go_wp2_with (first | ((with_reducible refine gate_callee (f := 63) rfl ?_); refine goesL_ (some 28) rfl rfl Try.func63 (by kernel_rfl) rfl #[.int .u64 x8_1, .int .u64 x7_1] rfl (by (try simp only [List.map_toArray, List.map_cons, List.map_nil]); first | done | rfl | (simp only [tb_wrap8]; done) | (simp only [tb_wrap8]; rfl) | (simp only [List.length_drop, List.length_take]; rfl)) ?_; (with_reducible refine (ring_divMod.calls k1 x8_1 x7_1 t139 t140 _ A9.out).mono ?_); rintro e w' ⟨rfl, ⟨nd, rfl⟩⟩; refine ⟨_, rfl, ?_⟩) | ((with_reducible refine gate_callee (f := 60) rfl ?_); refine goesL_ (some 38) rfl rfl Try.func60 (by kernel_rfl) rfl #[.int .u64 t139, .int .u64 x10_1, .int .u64 a1] rfl (by (try simp only [List.map_toArray, List.map_cons, List.map_nil]); first | done | rfl | (simp only [tb_wrap8]; done) | (simp only [tb_wrap8]; rfl) | (simp only [List.length_drop, List.length_take]; rfl)) ?_; (with_reducible refine (ring_mulMod.calls k1 t139 x10_1 a1 t141 _ A10.out).mono ?_); rintro e w' ⟨rfl, ⟨nd, rfl⟩⟩; refine ⟨_, rfl, ?_⟩))
          go_roundg k1
          case measure => have := HK1.out; omega
          case rel => exact ⟨(t140), (x7_1), (x10_1), (Go.bits .xor .u64 x9_1 t141), (by first | rfl | (simp; done) | (simp [*]; done)), (by first | rfl | (simp; done) | (simp [*]; done)), (by first | rfl | (simp; done) | (simp [*]; done)), (by first | rfl | (simp; done) | (simp [*]; done)), H', ⟨by have := HK1.out; omega⟩, by repeat (first | exact Drawn0.refl _ | apply Drawn0.step)⟩
  · replace c4 := Bool.eq_false_iff.mpr c4
    subst c4
    have H1 : (some (0, 11)) = some (r1, r2) := by rw [if_neg (show ¬ (false = true) by decide)] at H; exact H
    clear H
    have H := H1
    clear H1
    simp only [Option.some.injEq, Prod.mk.injEq] at H
    obtain ⟨rfl, rfl⟩ := H
    go_enter Try.func37, Try.ntmps37
    go_wp2_with (first | ((with_reducible refine gate_callee (f := 59) rfl ?_); refine goesL_ (some 14) rfl rfl Try.func59 (by kernel_rfl) rfl #[.int .u64 a1, .int .i64 32] rfl (by (try simp only [List.map_toArray, List.map_cons, List.map_nil]); first | done | rfl | (simp only [tb_wrap8]; done) | (simp only [tb_wrap8]; rfl) | (simp only [List.length_drop, List.length_take]; rfl)) ?_; (with_reducible refine (ring_isModulus.calls a1 32 false _ A3.out).mono ?_); rintro e w' ⟨rfl, ⟨nd, rfl⟩⟩; refine ⟨_, rfl, ?_⟩))
    go_ret2
    exact ⟨by first | rfl | (simp; done) | (simp [*]; done), by repeat (first | exact Drawn0.refl _ | apply Drawn0.step)⟩

/-! ### gf16_Tables_Inv: function 38 -/
def gf16_Tables_Inv.f (a0 : Int) : Option (Int × Int) := if 0 ≤ a0 ∧ a0 ≤ 65535 then (if a0 = 0 then some (0, 20) else (tab16.lg 65535 a0.toNat).bind fun la => some (((tab16.pw ((65535 - la) % 65535) : Nat) : Int), 0)) else none
set_option maxHeartbeats 4000000 in
set_option maxRecDepth 100000 in
theorem gf16_Tables_Inv.calls (g : Nat) (a0 r1 r2 : Int) (w : World) (hI : IsS66 w w g) (h : gf16_Tables_Inv.f a0 = some (r1, r2)) : Calls Try.prog 38 #[.pointer (some ⟨g, 0, none⟩), .int .u16 a0] w fun e w' => e = .returned (.tuple #[.int .u16 r1, .int .i64 r2]) ∧ Drawn0 w w' := by
  unfold gf16_Tables_Inv.f at h
  by_cases hr : 0 ≤ a0 ∧ a0 ≤ 65535
  · rw [if_pos hr] at h
    obtain ⟨a, rfl⟩ : ∃ a : Nat, a0 = (a : Int) := ⟨a0.toNat, by omega⟩
    by_cases h0 : (a : Int) = 0
    · rw [if_pos h0] at h
      obtain ⟨rfl, rfl⟩ := Prod.mk.inj (Option.some.inj h)
      have hz : ((a : Int) == 0) = true := beq_iff_eq.2 h0
      clear h0 h hr
      go_enter Try.func38, Try.ntmps38
      go_wp2
      refine bodyPost_ret (results_tmp2 rfl _ _ _) rfl ?_
      exact ⟨rfl, Drawn0.refl _⟩
    · rw [if_neg h0, Int.toNat_natCast] at h
      have hz : ((a : Int) == 0) = false := beq_eq_false_iff_ne.2 h0
      obtain ⟨la, hla, h⟩ := Option.bind_eq_some_iff.1 h
      obtain ⟨rfl, rfl⟩ := Prod.mk.inj (Option.some.inj h)
      have c1 := hI.log hla
      have l1 := tab16.lg_lt _ _ _ hla
      have c3 := hI.exp (j := (65535 - la) % 65535) (Nat.mod_lt _ (by decide))
      have ha : a < 65536 := by omega
      generalize tab16.pw ((65535 - la) % 65535) = p at c3 ⊢
      obtain ⟨m, hm⟩ : ∃ m : Nat, (65535 : Int) - (la : Int) = (m : Int) := ⟨65535 - la, by omega⟩
      have hm2 : 65535 - la = m := by omega
      rw [hm2] at c3
      have hml : m ≤ 65535 := by omega
      clear hI hla h h0 hr hm2
      go_enter Try.func38, Try.ntmps38
      go_wp2
      go_quiet (fail)
      go_wp2
      refine bodyPost_ret (results_tmp2 rfl _ _ _) rfl ?_
      exact ⟨rfl, ⟨_, rfl⟩⟩
  · rw [if_neg hr] at h; cases h

/-! ### gf8_Tables_Log: function 64 -/
def gf8_Tables_Log.f (a0 : Int) : Option (Int × Int) := if 0 ≤ a0 ∧ a0 ≤ 255 then (if a0 = 0 then some (0, 20) else (tab8.lg 255 a0.toNat).bind fun la => some ((la : Int), 0)) else none
set_option maxHeartbeats 4000000 in
set_option maxRecDepth 100000 in
theorem gf8_Tables_Log.calls (g : Nat) (a0 r1 r2 : Int) (w : World) (hI : IsS88 w w g) (h : gf8_Tables_Log.f a0 = some (r1, r2)) : Calls Try.prog 64 #[.pointer (some ⟨g, 0, none⟩), .int .u8 a0] w fun e w' => e = .returned (.tuple #[.int .i64 r1, .int .i64 r2]) ∧ Drawn0 w w' := by
  unfold gf8_Tables_Log.f at h
  by_cases hr : 0 ≤ a0 ∧ a0 ≤ 255
  · rw [if_pos hr] at h
    obtain ⟨a, rfl⟩ : ∃ a : Nat, a0 = (a : Int) := ⟨a0.toNat, by omega⟩
    by_cases h0 : (a : Int) = 0
    · rw [if_pos h0] at h
      obtain ⟨rfl, rfl⟩ := Prod.mk.inj (Option.some.inj h)
      have hz : ((a : Int) == 0) = true := beq_iff_eq.2 h0
      clear h0 h hr
      go_enter Try.func64, Try.ntmps64
      go_wp2
      refine bodyPost_ret (results_tmp2 rfl _ _ _) rfl ?_
      exact ⟨rfl, Drawn0.refl _⟩
    · rw [if_neg h0, Int.toNat_natCast] at h
      have hz : ((a : Int) == 0) = false := beq_eq_false_iff_ne.2 h0
      obtain ⟨la, hla, h⟩ := Option.bind_eq_some_iff.1 h
      obtain ⟨rfl, rfl⟩ := Prod.mk.inj (Option.some.inj h)
      have c1 := hI.log hla
      have l1 := tab8.lg_lt _ _ _ hla
      have ha : a < 256 := by omega
      clear hI hla h h0 hr
      go_enter Try.func64, Try.ntmps64
      go_wp2
      (try (go_quiet (fail)))
      (try go_wp2)
      refine bodyPost_ret (results_tmp2 rfl _ _ _) rfl ?_
      exact ⟨rfl, by first | exact Drawn0.refl _ | exact ⟨_, rfl⟩⟩
  · rw [if_neg hr] at h; cases h

/-! ### gf8_remainder: function 75 -/
def gf8_remainder.f (a0 : Int) : Option (Int) := if (Int.tmod a0 255) < 0 then (some (wrap64 ((Int.tmod a0 255) + 255))) else (some (Int.tmod a0 255))
set_option maxHeartbeats 8000000 in
set_option maxRecDepth 100000 in
theorem gf8_remainder.calls (a0 : Int) (r : Int) (w : World) (h : gf8_remainder.f a0 = some r) :
    Calls Try.prog 75 #[.int .i64 a0] w fun e w' => e = .returned (.int .i64 r) ∧ Drawn0 w w' := by
  have H : (if (Int.tmod a0 255) < 0 then (some (wrap64 ((Int.tmod a0 255) + 255))) else (some (Int.tmod a0 255))) = some r := h
  clear h
  by_cases c2 : (Int.tmod a0 255) < 0
  · rw [if_pos c2] at H
    have c2b0 : decide ((Int.tmod a0 255) < 0) = true := decide_eq_true c2
    clear c2
    obtain rfl := Option.some.inj H
    go_enter Try.func75, Try.ntmps75
    go_wp2
    go_ret
    exact ⟨by first | rfl | (simp; done) | (simp [*]; done), by repeat (first | exact Drawn0.refl _ | apply Drawn0.step)⟩
  · rw [if_neg c2] at H
    have c2b0 : decide ((Int.tmod a0 255) < 0) = false := decide_eq_false c2
    clear c2
    obtain rfl := Option.some.inj H
    go_enter Try.func75, Try.ntmps75
    go_wp2
    go_ret
    exact ⟨by first | rfl | (simp; done) | (simp [*]; done), by repeat (first | exact Drawn0.refl _ | apply Drawn0.step)⟩

/-! ### gf8_Tables_Exp: function 65 -/
def gf8_Tables_Exp.f (a0 : Int) : Option Int := (gf8_remainder.f a0).bind fun t => if 0 ≤ t ∧ t < 255 then some ((tab8.pw t.toNat : Nat) : Int) else none
set_option maxHeartbeats 4000000 in
set_option maxRecDepth 100000 in
theorem gf8_Tables_Exp.calls (g : Nat) (a0 r : Int) (w : World) (hI : IsS88 w w g) (h : gf8_Tables_Exp.f a0 = some r) : Calls Try.prog 65 #[.pointer (some ⟨g, 0, none⟩), .int .i64 a0] w fun e w' => e = .returned (.int .u8 r) ∧ Drawn0 w w' := by
  unfold gf8_Tables_Exp.f at h
  obtain ⟨t, ht, h⟩ := Option.bind_eq_some_iff.1 h
  by_cases hr : 0 ≤ t ∧ t < 255
  · rw [if_pos hr] at h
    obtain ⟨m, rfl⟩ : ∃ m : Nat, t = (m : Int) := ⟨t.toNat, by omega⟩
    rw [Int.toNat_natCast] at h
    obtain rfl := Option.some.inj h
    have hm : m < 255 := by omega
    have c3 := hI.exp (j := m) (by omega)
    rw [Nat.mod_eq_of_lt hm] at c3
    have HT := Aside0.mk ht
    generalize tab8.pw m = p at c3 ⊢
    clear hI h hr ht
    go_enter Try.func65, Try.ntmps65
    go_wp2
    go_quiet ((go_at_call 75; exact quiet_of_drawn (gf8_remainder.calls _ _ _ HT.out)))
    go_wp2
    go_ret
    exact ⟨rfl, ⟨_, rfl⟩⟩
  · rw [if_neg hr] at h; cases h

/-! ### cullettop_mul8: function 66 -/
def cullettop_mul8.l0 : Nat → Int → Int → Int → Int → Option (Int)
  | 0, _, _, _, _ => none
  | k + 1, x5, x6, x7, x8 => if x8 < 8 then (if 0 ≤ x8 then (if (Go.bits .and .i64 (shr .i64 x6 x8) 1) = 1 then (if (Go.bits .and .i64 (wrap64 (x5 * 2)) 256) = 0 then (cullettop_mul8.l0 k (wrap64 (x5 * 2)) x6 (Go.bits .xor .i64 x7 x5) (wrap64 (x8 + 1))) else (cullettop_mul8.l0 k (Go.bits .xor .i64 (wrap64 (x5 * 2)) 285) x6 (Go.bits .xor .i64 x7 x5) (wrap64 (x8 + 1)))) else (if (Go.bits .and .i64 (wrap64 (x5 * 2)) 256) = 0 then (cullettop_mul8.l0 k (wrap64 (x5 * 2)) x6 x7 (wrap64 (x8 + 1))) else (cullettop_mul8.l0 k (Go.bits .xor .i64 (wrap64 (x5 * 2)) 285) x6 x7 (wrap64 (x8 + 1))))) else (none)) else (some ((x7) % 256))
def cullettop_mul8.f (k : Nat) (a0 : Int) (a1 : Int) : Option (Int) := cullettop_mul8.l0 k (wrap64 (a0)) (wrap64 (a1)) 0 0
theorem cullettop_mul8.mono_l : ∀ k, (∀ y0 y1 y2 y3, LeO (cullettop_mul8.l0 k y0 y1 y2 y3) (cullettop_mul8.l0 (k + 1) y0 y1 y2 y3))
  | 0 => fun _ _ _ _ r h => by simp [cullettop_mul8.l0] at h
  | k + 1 => by
    have ih0 := cullettop_mul8.mono_l k
    · intro y0 y1 y2 y3
      unfold cullettop_mul8.l0
      repeat' first
      | (with_reducible exact ih0 _ _ _ _)
      | (with_reducible exact LeO.refl _)
      | (with_reducible exact LeO.none _)
      | (with_reducible refine LeO.ite ?_ ?_)
      | (with_reducible refine LeO.bind ?_ (fun _ => ?_))
      | exact ih0 _ _ _ _
      | exact LeO.none _
      | refine LeO.ite ?_ ?_
      | refine LeO.bind ?_ (fun _ => ?_)
theorem cullettop_mul8.mono : ∀ a0 a1 k, LeO (cullettop_mul8.f k a0 a1) (cullettop_mul8.f (k + 1) a0 a1) := by
  intro a0 a1 k
  have ih0 := cullettop_mul8.mono_l k
  unfold cullettop_mul8.f
  repeat' first
      | (with_reducible exact ih0 _ _ _ _)
      | (with_reducible exact LeO.refl _)
      | (with_reducible exact LeO.none _)
      | (with_reducible refine LeO.ite ?_ ?_)
      | (with_reducible refine LeO.bind ?_ (fun _ => ?_))
      | exact ih0 _ _ _ _
      | exact LeO.none _
      | refine LeO.ite ?_ ?_
      | refine LeO.bind ?_ (fun _ => ?_)
set_option maxHeartbeats 8000000 in
set_option maxRecDepth 100000 in
theorem cullettop_mul8.calls (k : Nat) (a0 : Int) (a1 : Int) (r : Int) (w : World) (h : cullettop_mul8.f k a0 a1 = some r) :
    Calls Try.prog 66 #[.int .u8 a0, .int .u8 a1] w fun e w' => e = .returned (.int .u8 r) ∧ Drawn0 w w' := by
  have H : (cullettop_mul8.l0 k (wrap64 (a0)) (wrap64 (a1)) 0 0) = some r := h
  clear h
  have H' := Aside0.mk H
  clear H
  go_enter Try.func66, Try.ntmps66
  go_wp2
  go_loopg [5, 7, 8] k (fun kq v5 v7 v8 w' => ∃ (x5_1 : Int) (x7_1 : Int) (x8_1 : Int), v5 = .int .i64 x5_1 ∧ v7 = .int .i64 x7_1 ∧ v8 = .int .i64 x8_1 ∧ Aside0 (cullettop_mul8.l0 kq x5_1 (wrap64 (a1)) x7_1 x8_1 = some r) ∧ Aside0 (kq ≤ k) ∧ Drawn0 w w')
  case atStart => exact ⟨(wrap64 (a0)), (0), (0), (by first | rfl | (simp; done) | (simp [*]; done)), (by first | rfl | (simp; done) | (simp [*]; done)), (by first | rfl | (simp; done) | (simp [*]; done)), H', ⟨Nat.le_refl _⟩, by repeat (first | exact Drawn0.refl _ | apply Drawn0.step)⟩
  case round =>
    clear H'
    try clear p2
    obtain ⟨x5_1, x7_1, x8_1, rfl, rfl, rfl, HA, HK1, ⟨m1, rfl⟩⟩ := hrel
    cases gk with
    | zero => exact absurd HA.out (by simp [cullettop_mul8.l0])
    | succ k1 =>
      have H := HA.out
      clear HA
      simp only [cullettop_mul8.l0] at H
      by_cases c3 : x8_1 < 8
      · rw [if_pos c3] at H
        have c3b0 : decide (x8_1 < 8) = true := decide_eq_true c3
        clear c3
        by_cases c4 : 0 ≤ x8_1
        · rw [if_pos c4] at H
          have c4b0 := eq_true c4
          have c4b1 : decide (0 ≤ x8_1) = true := decide_eq_true c4
          clear c4
          obtain ⟨ji5, hji5⟩ : ∃ j_ : Int, (shr .i64 (wrap64 (a1)) x8_1) = j_ := ⟨_, rfl⟩
          replace H : (if (Go.bits .and .i64 (ji5) 1) = 1 then (if (Go.bits .and .i64 (wrap64 (x5_1 * 2)) 256) = 0 then (cullettop_mul8.l0 k1 (wrap64 (x5_1 * 2)) (wrap64 (a1)) (Go.bits .xor .i64 x7_1 x5_1) (wrap64 (x8_1 + 1))) else (cullettop_mul8.l0 k1 (Go.bits .xor .i64 (wrap64 (x5_1 * 2)) 285) (wrap64 (a1)) (Go.bits .xor .i64 x7_1 x5_1) (wrap64 (x8_1 + 1)))) else (if (Go.bits .and .i64 (wrap64 (x5_1 * 2)) 256) = 0 then (cullettop_mul8.l0 k1 (wrap64 (x5_1 * 2)) (wrap64 (a1)) x7_1 (wrap64 (x8_1 + 1))) else (cullettop_mul8.l0 k1 (Go.bits .xor .i64 (wrap64 (x5_1 * 2)) 285) (wrap64 (a1)) x7_1 (wrap64 (x8_1 + 1))))) = some r := by first | (rw [hji5] at H; exact H) | (simp only [hji5] at H ⊢; exact H)
          have hji5_ : ((wrap64 (a1)) / 2 ^ min x8_1.toNat 64) = ji5 := hji5
          have hji5z : x8_1 ≤ 64 → ((wrap64 (a1)) / 2 ^ x8_1.toNat) = ji5 := shr_small hji5
          by_cases c6 : (Go.bits .and .i64 (ji5) 1) = 1
          · rw [if_pos c6] at H
            have c6b0 : ((Go.bits .and .i64 (ji5) 1) == 1) = true := beq_iff_eq.mpr c6
            have c6b1 : ((Go.bits .and .i64 (ji5) 1) != 1) = false := bne_eq_false_iff_eq.mpr c6
            clear c6
            by_cases c7 : (Go.bits .and .i64 (wrap64 (x5_1 * 2)) 256) = 0
            · rw [if_pos c7] at H
              have c7b0 : ((Go.bits .and .i64 (wrap64 (x5_1 * 2)) 256) == 0) = true := beq_iff_eq.mpr c7
              have c7b1 : ((Go.bits .and .i64 (wrap64 (x5_1 * 2)) 256) != 0) = false := bne_eq_false_iff_eq.mpr c7
              clear c7
              have H' := Aside0.mk H
              clear H
              go_wp2
              go_roundg k1
              case measure => have := HK1.out; omega
              case rel => exact ⟨(wrap64 (x5_1 * 2)), (Go.bits .xor .i64 x7_1 x5_1), (wrap64 (x8_1 + 1)), (by first | rfl | (simp; done) | (simp [*]; done)), (by first | rfl | (simp; done) | (simp [*]; done)), (by first | rfl | (simp; done) | (simp [*]; done)), H', ⟨by have := HK1.out; omega⟩, by repeat (first | exact Drawn0.refl _ | apply Drawn0.step)⟩
            · rw [if_neg c7] at H
              have c7b0 : ((Go.bits .and .i64 (wrap64 (x5_1 * 2)) 256) == 0) = false := beq_eq_false_iff_ne.mpr c7
              have c7b1 : ((Go.bits .and .i64 (wrap64 (x5_1 * 2)) 256) != 0) = true := bne_iff_ne.mpr c7
              have H' := Aside0.mk H
              clear H
              go_wp2
              go_roundg k1
              case measure => have := HK1.out; omega
              case rel => exact ⟨(Go.bits .xor .i64 (wrap64 (x5_1 * 2)) 285), (Go.bits .xor .i64 x7_1 x5_1), (wrap64 (x8_1 + 1)), (by first | rfl | (simp; done) | (simp [*]; done)), (by first | rfl | (simp; done) | (simp [*]; done)), (by first | rfl | (simp; done) | (simp [*]; done)), H', ⟨by have := HK1.out; omega⟩, by repeat (first | exact Drawn0.refl _ | apply Drawn0.step)⟩
          · rw [if_neg c6] at H
            have c6b0 : ((Go.bits .and .i64 (ji5) 1) == 1) = false := beq_eq_false_iff_ne.mpr c6
            have c6b1 : ((Go.bits .and .i64 (ji5) 1) != 1) = true := bne_iff_ne.mpr c6
            by_cases c8 : (Go.bits .and .i64 (wrap64 (x5_1 * 2)) 256) = 0
            · rw [if_pos c8] at H
              have c8b0 : ((Go.bits .and .i64 (wrap64 (x5_1 * 2)) 256) == 0) = true := beq_iff_eq.mpr c8
              have c8b1 : ((Go.bits .and .i64 (wrap64 (x5_1 * 2)) 256) != 0) = false := bne_eq_false_iff_eq.mpr c8
              clear c8
              have H' := Aside0.mk H
              clear H
              go_wp2
              go_roundg k1
              case measure => have := HK1.out; omega
              case rel => exact ⟨(wrap64 (x5_1 * 2)), (x7_1), (wrap64 (x8_1 + 1)), (by first | rfl | (simp; done) | (simp [*]; done)), (by first | rfl | (simp; done) | (simp [*]; done)), (by first | rfl | (simp; done) | (simp [*]; done)), H', ⟨by have := HK1.out; omega⟩, by repeat (first | exact Drawn0.refl _ | apply Drawn0.step)⟩
            · rw [if_neg c8] at H
              have c8b0 : ((Go.bits .and .i64 (wrap64 (x5_1 * 2)) 256) == 0) = false := beq_eq_false_iff_ne.mpr c8
              have c8b1 : ((Go.bits .and .i64 (wrap64 (x5_1 * 2)) 256) != 0) = true := bne_iff_ne.mpr c8
              have H' := Aside0.mk H
              clear H
              go_wp2
              go_roundg k1
              case measure => have := HK1.out; omega
              case rel => exact ⟨(Go.bits .xor .i64 (wrap64 (x5_1 * 2)) 285), (x7_1), (wrap64 (x8_1 + 1)), (by first | rfl | (simp; done) | (simp [*]; done)), (by first | rfl | (simp; done) | (simp [*]; done)), (by first | rfl | (simp; done) | (simp [*]; done)), H', ⟨by have := HK1.out; omega⟩, by repeat (first | exact Drawn0.refl _ | apply Drawn0.step)⟩
        · rw [if_neg c4] at H
          exact absurd H (by simp)
      · rw [if_neg c3] at H
        have c3b0 : decide (x8_1 < 8) = false := decide_eq_false c3
        clear c3
        obtain rfl := Option.some.inj H
        go_wp2
        go_ret
        exact ⟨by first | rfl | (simp; done) | (simp [*]; done), by repeat (first | exact Drawn0.refl _ | apply Drawn0.step)⟩

/-! ### cullettop_inv8: function 67 -/
def cullettop_inv8.l0 : Nat → Int → Int → Int → Option (Int)
  | 0, _, _, _ => none
  | k + 1, x3, x4, x5 => if x5 < 8 then ((cullettop_mul8.f k x4 x4).bind fun t142 => ((cullettop_mul8.f k x3 t142).bind fun t143 => (cullettop_inv8.l0 k t143 t142 (wrap64 (x5 + 1))))) else (some x3)
def cullettop_inv8.f (k : Nat) (a0 : Int) : Option (Int) := cullettop_inv8.l0 k 1 a0 1
theorem cullettop_inv8.mono_l : ∀ k, (∀ y0 y1 y2, LeO (cullettop_inv8.l0 k y0 y1 y2) (cullettop_inv8.l0 (k + 1) y0 y1 y2))
  | 0 => fun _ _ _ r h => by simp [cullettop_inv8.l0] at h
  | k + 1 => by
    have ih0 := cullettop_inv8.mono_l k
    · intro y0 y1 y2
      unfold cullettop_inv8.l0
      repeat' first
      | (with_reducible exact ih0 _ _ _)
      | (with_reducible exact cullettop_mul8.mono _ _ _)
      | (with_reducible exact LeO.refl _)
      | (with_reducible exact LeO.none _)
      | (with_reducible refine LeO.ite ?_ ?_)
      | (with_reducible refine LeO.bind ?_ (fun _ => ?_))
      | exact ih0 _ _ _
      | exact cullettop_mul8.mono _ _ _
      | exact LeO.none _
      | refine LeO.ite ?_ ?_
      | refine LeO.bind ?_ (fun _ => ?_)
theorem cullettop_inv8.mono : ∀ a0 k, LeO (cullettop_inv8.f k a0) (cullettop_inv8.f (k + 1) a0) := by
  intro a0 k
  have ih0 := cullettop_inv8.mono_l k
  unfold cullettop_inv8.f
  repeat' first
      | (with_reducible exact ih0 _ _ _)
      | (with_reducible exact cullettop_mul8.mono _ _ _)
      | (with_reducible exact LeO.refl _)
      | (with_reducible exact LeO.none _)
      | (with_reducible refine LeO.ite ?_ ?_)
      | (with_reducible refine LeO.bind ?_ (fun _ => ?_))
      | exact ih0 _ _ _
      | exact cullettop_mul8.mono _ _ _
      | exact LeO.none _
      | refine LeO.ite ?_ ?_
      | refine LeO.bind ?_ (fun _ => ?_)
set_option maxHeartbeats 8000000 in
set_option maxRecDepth 100000 in
theorem cullettop_inv8.calls (k : Nat) (a0 : Int) (r : Int) (w : World) (h : cullettop_inv8.f k a0 = some r) :
    Calls Try.prog 67 #[.int .u8 a0] w fun e w' => e = .returned (.int .u8 r) ∧ Drawn0 w w' := by
  have H : (cullettop_inv8.l0 k 1 a0 1) = some r := h
  clear h
  have H' := Aside0.mk H
  clear H
  go_enter Try.func67, Try.ntmps67
  go_wp2
  go_loopg [3, 4, 5] k (fun kq v3 v4 v5 w' => ∃ (x3_1 : Int) (x4_1 : Int) (x5_1 : Int), v3 = .int .u8 x3_1 ∧ v4 = .int .u8 x4_1 ∧ v5 = .int .i64 x5_1 ∧ Aside0 (cullettop_inv8.l0 kq x3_1 x4_1 x5_1 = some r) ∧ Aside0 (kq ≤ k) ∧ Drawn0 w w')
  case atStart => exact ⟨(1), (a0), (1), (by first | rfl | (simp; done) | (simp [*]; done)), (by first | rfl | (simp; done) | (simp [*]; done)), (by first | rfl | (simp; done) | (simp [*]; done)), H', ⟨Nat.le_refl _⟩, by repeat (first | exact Drawn0.refl _ | apply Drawn0.step)⟩
  case round =>
    clear H'
    obtain ⟨x3_1, x4_1, x5_1, rfl, rfl, rfl, HA, HK1, ⟨m1, rfl⟩⟩ := hrel
    cases gk with
    | zero => exact absurd HA.out (by simp [cullettop_inv8.l0])
    | succ k1 =>
      have H := HA.out
      clear HA
      simp only [cullettop_inv8.l0] at H
      by_cases c2 : x5_1 < 8
      · rw [if_pos c2] at H
        have c2b0 : decide (x5_1 < 8) = true := decide_eq_true c2
        clear c2
        replace H := Option.bind_eq_some_iff.mp H
        obtain ⟨t142, A30, H⟩ := H
        replace H : ((cullettop_mul8.f k1 x3_1 t142).bind fun t143 => (cullettop_inv8.l0 k1 t143 t142 (wrap64 (x5_1 + 1)))) = some r := H
        have A3 := Aside0.mk A30
        clear A30
        replace H := Option.bind_eq_some_iff.mp H
        obtain ⟨t143, A40, H⟩ := H
        replace H : (cullettop_inv8.l0 k1 t143 t142 (wrap64 (x5_1 + 1))) = some r := H
        have A4 := Aside0.mk A40
        clear A40
        have H' := Aside0.mk H
        clear H
        go_wp2_with (first | ((with_reducible refine gate_callee (f := 66) rfl ?_); refine goesL_ (some 13) rfl rfl Try.func66 (by kernel_rfl) rfl #[.int .u8 x4_1, .int .u8 x4_1] rfl (by (try simp only [List.map_toArray, List.map_cons, List.map_nil]); first | done | rfl | (simp only [tb_wrap8]; done) | (simp only [tb_wrap8]; rfl) | (simp only [List.length_drop, List.length_take]; rfl)) ?_; (with_reducible refine (cullettop_mul8.calls k1 x4_1 x4_1 t142 _ A3.out).mono ?_); rintro e w' ⟨rfl, ⟨nd, rfl⟩⟩; refine ⟨_, rfl, ?_⟩) | ((with_reducible refine gate_callee (f := 66) rfl ?_); refine goesL_ (some 16) rfl rfl Try.func66 (by kernel_rfl) rfl #[.int .u8 x3_1, .int .u8 t142] rfl (by (try simp only [List.map_toArray, List.map_cons, List.map_nil]); first | done | rfl | (simp only [tb_wrap8]; done) | (simp only [tb_wrap8]; rfl) | (simp only [List.length_drop, List.length_take]; rfl)) ?_; (with_reducible refine (cullettop_mul8.calls k1 x3_1 t142 t143 _ A4.out).mono ?_); rintro e w' ⟨rfl, ⟨nd, rfl⟩⟩; refine ⟨_, rfl, ?_⟩))
        go_roundg k1
        case measure => have := HK1.out; omega
        case rel => exact ⟨(t143), (t142), (wrap64 (x5_1 + 1)), (by first | rfl | (simp; done) | (simp [*]; done)), (by first | rfl | (simp; done) | (simp [*]; done)), (by first | rfl | (simp; done) | (simp [*]; done)), H', ⟨by have := HK1.out; omega⟩, by repeat (first | exact Drawn0.refl _ | apply Drawn0.step)⟩
      · rw [if_neg c2] at H
        have c2b0 : decide (x5_1 < 8) = false := decide_eq_false c2
        clear c2
        obtain rfl := Option.some.inj H
        go_wp2
        go_ret
        exact ⟨by first | rfl | (simp; done) | (simp [*]; done), by repeat (first | exact Drawn0.refl _ | apply Drawn0.step)⟩

end Go.Proofs.Ytedaifgbnojojaa.Q
