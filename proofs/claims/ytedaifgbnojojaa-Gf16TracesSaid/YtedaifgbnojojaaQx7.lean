-- Printed for this claim by mp.py, a program of its prover, through the kit's print. Lean checks it.
import Derived.Test.YtedaifgbnojojaaQx0
import Derived.Test.YtedaifgbnojojaaQx1
import Derived.Test.YtedaifgbnojojaaQx2
import Derived.Test.YtedaifgbnojojaaQx5
import Derived.Test.YtedaifgbnojojaaQx6
namespace Go.Proofs.Ytedaifgbnojojaa.Q
open Go.RowKit Go.Proofs.YtedaifgbnojojaaW.PrintWords Go.Proofs.YtedaifgbnojojaaW.PrintLast Go.Proofs.YtedaifgbnojojaaW.PrintMore
attribute [local go_sem] max2_int min2_int max_two min_two max_three min_three max_four min_four   -- for this text's walks alone
set_option linter.unusedVariables false
set_option linter.unusedSimpArgs false

/-! ### culletlaw03_Gf16Traces: function 10 -/
def culletlaw03_Gf16Traces.j0 : Nat → Int → Int → Bool → Option (Bool)
  | 0, _, _, _ => none
  | k + 1, x0, x1, x23 => if x23 = true then (some false) else ((gf16_Mul.f k x0 x0).bind fun t180 => ((gf16_Mul.f k (Go.bits .xor .u16 x0 x1) (Go.bits .xor .u16 x0 x1)).bind fun t181 => ((gf16_Mul.f k x1 x1).bind fun t182 => (if t181 = (Go.bits .xor .u16 t180 t182) then ((gf16_Trace.f k x0).bind fun t183 => ((gf16_Trace.f k x1).bind fun t184 => (if t183 = 0 then (if t184 = 0 then ((gf16_Trace.f k (Go.bits .xor .u16 x0 x1)).bind fun t185 => (if t185 = (Go.bits .xor .i64 t183 t184) then ((gf16_Trace.f k t180).bind fun t186 => (some (t186 == t183))) else (some false))) else (if t184 = 1 then ((gf16_Trace.f k (Go.bits .xor .u16 x0 x1)).bind fun t187 => (if t187 = (Go.bits .xor .i64 t183 t184) then ((gf16_Trace.f k t180).bind fun t188 => (some (t188 == t183))) else (some false))) else (some false))) else (if t183 = 1 then (if t184 = 0 then ((gf16_Trace.f k (Go.bits .xor .u16 x0 x1)).bind fun t189 => (if t189 = (Go.bits .xor .i64 t183 t184) then ((gf16_Trace.f k t180).bind fun t190 => (some (t190 == t183))) else (some false))) else (if t184 = 1 then ((gf16_Trace.f k (Go.bits .xor .u16 x0 x1)).bind fun t191 => (if t191 = (Go.bits .xor .i64 t183 t184) then ((gf16_Trace.f k t180).bind fun t192 => (some (t192 == t183))) else (some false))) else (some false))) else (some false))))) else (some false)))))
def culletlaw03_Gf16Traces.f (k : Nat) (a0 : Int) (a1 : Int) : Option (Bool) := (culletlaw03_fixed.f k).bind fun t176 => (if t176 = true then ((gf16_Trace.f k 39198).bind fun t177 => (if t177 = 1 then ((culletlaw03_rooted.f k a0).bind fun t178 => (if t178 = true then ((culletlaw03_rooted.f k a1).bind fun t179 => (culletlaw03_Gf16Traces.j0 k a0 a1 (!t179))) else (culletlaw03_Gf16Traces.j0 k a0 a1 true))) else (culletlaw03_Gf16Traces.j0 k a0 a1 true))) else (culletlaw03_Gf16Traces.j0 k a0 a1 true))
theorem culletlaw03_Gf16Traces.mono_l : ∀ k, (∀ y0 y1 y2, LeO (culletlaw03_Gf16Traces.j0 k y0 y1 y2) (culletlaw03_Gf16Traces.j0 (k + 1) y0 y1 y2))
  | 0 => fun _ _ _ r h => by simp [culletlaw03_Gf16Traces.j0] at h
  | k + 1 => by
    have ih0 := culletlaw03_Gf16Traces.mono_l k
    · intro y0 y1 y2
      unfold culletlaw03_Gf16Traces.j0
      repeat' first
      | (with_reducible exact ih0 _ _ _)
      | (with_reducible exact culletlaw03_fixed.mono _)
      | (with_reducible exact culletlaw03_rooted.mono _ _)
      | (with_reducible exact gf16_Mul.mono _ _ _)
      | (with_reducible exact gf16_Trace.mono _ _)
      | (with_reducible exact LeO.refl _)
      | (with_reducible exact LeO.none _)
      | (with_reducible refine LeO.ite ?_ ?_)
      | (with_reducible refine LeO.bind ?_ (fun _ => ?_))
      | exact ih0 _ _ _
      | exact culletlaw03_fixed.mono _
      | exact culletlaw03_rooted.mono _ _
      | exact gf16_Mul.mono _ _ _
      | exact gf16_Trace.mono _ _
      | exact LeO.none _
      | refine LeO.ite ?_ ?_
      | refine LeO.bind ?_ (fun _ => ?_)
theorem culletlaw03_Gf16Traces.mono : ∀ a0 a1 k, LeO (culletlaw03_Gf16Traces.f k a0 a1) (culletlaw03_Gf16Traces.f (k + 1) a0 a1) := by
  intro a0 a1 k
  have ih0 := culletlaw03_Gf16Traces.mono_l k
  unfold culletlaw03_Gf16Traces.f
  repeat' first
      | (with_reducible exact ih0 _ _ _)
      | (with_reducible exact culletlaw03_fixed.mono _)
      | (with_reducible exact culletlaw03_rooted.mono _ _)
      | (with_reducible exact gf16_Mul.mono _ _ _)
      | (with_reducible exact gf16_Trace.mono _ _)
      | (with_reducible exact LeO.refl _)
      | (with_reducible exact LeO.none _)
      | (with_reducible refine LeO.ite ?_ ?_)
      | (with_reducible refine LeO.bind ?_ (fun _ => ?_))
      | exact ih0 _ _ _
      | exact culletlaw03_fixed.mono _
      | exact culletlaw03_rooted.mono _ _
      | exact gf16_Mul.mono _ _ _
      | exact gf16_Trace.mono _ _
      | exact LeO.none _
      | refine LeO.ite ?_ ?_
      | refine LeO.bind ?_ (fun _ => ?_)
set_option maxHeartbeats 8000000 in
set_option maxRecDepth 100000 in
theorem culletlaw03_Gf16Traces.calls (k : Nat) (a0 : Int) (a1 : Int) (r : Bool) (w : World) (h : culletlaw03_Gf16Traces.f k a0 a1 = some r) :
    Calls Try.prog 10 #[.int .u16 a0, .int .u16 a1] w fun e w' => e = .returned (.bool r) ∧ Below w.heap.size w w' := by
  have HB := Aside0.mk (Below.refl w.heap.size w)
  have H : ((culletlaw03_fixed.f k).bind fun t176 => (if t176 = true then ((gf16_Trace.f k 39198).bind fun t177 => (if t177 = 1 then ((culletlaw03_rooted.f k a0).bind fun t178 => (if t178 = true then ((culletlaw03_rooted.f k a1).bind fun t179 => (culletlaw03_Gf16Traces.j0 k a0 a1 (!t179))) else (culletlaw03_Gf16Traces.j0 k a0 a1 true))) else (culletlaw03_Gf16Traces.j0 k a0 a1 true))) else (culletlaw03_Gf16Traces.j0 k a0 a1 true))) = some r := h
  clear h
  have HC3 := Aside0.mk H
  clear H
  go_enter Try.func10, Try.ntmps10
  go_upto_region 1 with (fail)
  go_cut [23] (fun v23 wc => ∃ (kq : Nat) (x23_2 : Bool), v23 = .bool x23_2 ∧ Aside0 (culletlaw03_Gf16Traces.j0 kq a0 a1 x23_2 = some r) ∧ Aside0 (kq ≤ k) ∧ Aside0 (Below w.heap.size w wc))
  case first =>
    have H := HC3.out
    clear HC3
    replace H := Option.bind_eq_some_iff.mp H
    obtain ⟨t176, A40, H⟩ := H
    replace H : (if t176 = true then ((gf16_Trace.f k 39198).bind fun t177 => (if t177 = 1 then ((culletlaw03_rooted.f k a0).bind fun t178 => (if t178 = true then ((culletlaw03_rooted.f k a1).bind fun t179 => (culletlaw03_Gf16Traces.j0 k a0 a1 (!t179))) else (culletlaw03_Gf16Traces.j0 k a0 a1 true))) else (culletlaw03_Gf16Traces.j0 k a0 a1 true))) else (culletlaw03_Gf16Traces.j0 k a0 a1 true)) = some r := H
    have A4 := Aside0.mk A40
    clear A40
    by_cases c5 : t176 = true
    · subst c5
      have H1 : ((gf16_Trace.f k 39198).bind fun t177 => (if t177 = 1 then ((culletlaw03_rooted.f k a0).bind fun t178 => (if t178 = true then ((culletlaw03_rooted.f k a1).bind fun t179 => (culletlaw03_Gf16Traces.j0 k a0 a1 (!t179))) else (culletlaw03_Gf16Traces.j0 k a0 a1 true))) else (culletlaw03_Gf16Traces.j0 k a0 a1 true))) = some r := by rw [if_pos rfl] at H; exact H
      clear H
      have H := H1
      clear H1
      replace H := Option.bind_eq_some_iff.mp H
      obtain ⟨t177, A60, H⟩ := H
      replace H : (if t177 = 1 then ((culletlaw03_rooted.f k a0).bind fun t178 => (if t178 = true then ((culletlaw03_rooted.f k a1).bind fun t179 => (culletlaw03_Gf16Traces.j0 k a0 a1 (!t179))) else (culletlaw03_Gf16Traces.j0 k a0 a1 true))) else (culletlaw03_Gf16Traces.j0 k a0 a1 true)) = some r := H
      have A6 := Aside0.mk A60
      clear A60
      by_cases c7 : t177 = 1
      · rw [if_pos c7] at H
        have c7b0 : (t177 == 1) = true := beq_iff_eq.mpr c7
        have c7b1 : (t177 != 1) = false := bne_eq_false_iff_eq.mpr c7
        clear c7
        (first | rw [c7b0] | (simp only [i64_w, i32_w]; rw [c7b0]) | skip)
        replace H := Option.bind_eq_some_iff.mp H
        obtain ⟨t178, A80, H⟩ := H
        replace H : (if t178 = true then ((culletlaw03_rooted.f k a1).bind fun t179 => (culletlaw03_Gf16Traces.j0 k a0 a1 (!t179))) else (culletlaw03_Gf16Traces.j0 k a0 a1 true)) = some r := H
        have A8 := Aside0.mk A80
        clear A80
        by_cases c9 : t178 = true
        · subst c9
          have H1 : ((culletlaw03_rooted.f k a1).bind fun t179 => (culletlaw03_Gf16Traces.j0 k a0 a1 (!t179))) = some r := by rw [if_pos rfl] at H; exact H
          clear H
          have H := H1
          clear H1
          replace H := Option.bind_eq_some_iff.mp H
          obtain ⟨t179, A100, H⟩ := H
          replace H : (culletlaw03_Gf16Traces.j0 k a0 a1 (!t179)) = some r := H
          have A10 := Aside0.mk A100
          clear A100
          have H' := Aside0.mk H
          clear H
          go_wp2_with (first | ((with_reducible refine gate_callee (f := 17) rfl ?_); refine goesL_ (some 8) rfl rfl Try.func17 (by kernel_rfl) rfl #[] rfl (by (try simp only [List.map_toArray, List.map_cons, List.map_nil]); first | done | rfl | (simp only [List.length_drop, List.length_take]; rfl)) ?_; (with_reducible refine (culletlaw03_fixed.calls k  true _ A4.out).mono ?_); rintro e w' ⟨rfl, ⟨nd, rfl⟩⟩; refine ⟨_, rfl, ?_⟩) | (go_at_call 30; (with_reducible refine (gf16_Trace.calls k 39198 t177 _ A6.out).mono ?_); rintro e w' ⟨rfl, ⟨nd, rfl⟩⟩) | (go_at_call 31; (with_reducible refine (culletlaw03_rooted.calls k a0 true _ A8.out).mono ?_); rintro e w11 ⟨rfl, hb⟩; have n0_ := Aside0.mk (below_step (by repeat (first | (with_reducible first | exact HB.out | apply below_alloc | apply pw_below_drewN | apply below_drew1) | exact HB.out)) hb); clear HB; have HB := n0_; clear n0_; (try clear hb); (try clear hb2); (try clear hk); (try clear hi)) | (go_at_call 31; (with_reducible refine (culletlaw03_rooted.calls k a1 t179 _ A10.out).mono ?_); rintro e w12 ⟨rfl, hb⟩; have n0_ := Aside0.mk (below_step (by repeat (first | (with_reducible first | exact HB.out | apply below_alloc | apply pw_below_drewN | apply below_drew1) | exact HB.out)) hb); clear HB; have HB := n0_; clear n0_; (try clear hb); (try clear hb2); (try clear hk); (try clear hi)))
          go_meet
          case rel => exact ⟨_, (!t179), (by first | rfl | (simp; done) | (simp [*]; done)), H', ⟨by first | omega | exact Nat.le_refl _⟩, ⟨by repeat (first | (with_reducible first | exact HB.out | apply below_alloc | apply pw_below_drewN | apply below_drew1) | exact HB.out)⟩⟩
        · replace c9 := Bool.eq_false_iff.mpr c9
          subst c9
          have H1 : (culletlaw03_Gf16Traces.j0 k a0 a1 true) = some r := by rw [if_neg (show ¬ (false = true) by decide)] at H; exact H
          clear H
          have H := H1
          clear H1
          have H' := Aside0.mk H
          clear H
          go_wp2_with (first | ((with_reducible refine gate_callee (f := 17) rfl ?_); refine goesL_ (some 8) rfl rfl Try.func17 (by kernel_rfl) rfl #[] rfl (by (try simp only [List.map_toArray, List.map_cons, List.map_nil]); first | done | rfl | (simp only [List.length_drop, List.length_take]; rfl)) ?_; (with_reducible refine (culletlaw03_fixed.calls k  true _ A4.out).mono ?_); rintro e w' ⟨rfl, ⟨nd, rfl⟩⟩; refine ⟨_, rfl, ?_⟩) | (go_at_call 30; (with_reducible refine (gf16_Trace.calls k 39198 t177 _ A6.out).mono ?_); rintro e w' ⟨rfl, ⟨nd, rfl⟩⟩) | (go_at_call 31; (with_reducible refine (culletlaw03_rooted.calls k a0 false _ A8.out).mono ?_); rintro e w13 ⟨rfl, hb⟩; have n0_ := Aside0.mk (below_step (by repeat (first | (with_reducible first | exact HB.out | apply below_alloc | apply pw_below_drewN | apply below_drew1) | exact HB.out)) hb); clear HB; have HB := n0_; clear n0_; (try clear hb); (try clear hb2); (try clear hk); (try clear hi)))
          go_meet
          case rel => exact ⟨_, (true), (by first | rfl | (simp; done) | (simp [*]; done)), H', ⟨by first | omega | exact Nat.le_refl _⟩, ⟨by repeat (first | (with_reducible first | exact HB.out | apply below_alloc | apply pw_below_drewN | apply below_drew1) | exact HB.out)⟩⟩
      · rw [if_neg c7] at H
        have c7b0 : (t177 == 1) = false := beq_eq_false_iff_ne.mpr c7
        have c7b1 : (t177 != 1) = true := bne_iff_ne.mpr c7
        (first | rw [c7b0] | (simp only [i64_w, i32_w]; rw [c7b0]) | skip)
        have H' := Aside0.mk H
        clear H
        go_wp2_with (first | ((with_reducible refine gate_callee (f := 17) rfl ?_); refine goesL_ (some 8) rfl rfl Try.func17 (by kernel_rfl) rfl #[] rfl (by (try simp only [List.map_toArray, List.map_cons, List.map_nil]); first | done | rfl | (simp only [List.length_drop, List.length_take]; rfl)) ?_; (with_reducible refine (culletlaw03_fixed.calls k  true _ A4.out).mono ?_); rintro e w' ⟨rfl, ⟨nd, rfl⟩⟩; refine ⟨_, rfl, ?_⟩) | (go_at_call 30; (with_reducible refine (gf16_Trace.calls k 39198 t177 _ A6.out).mono ?_); rintro e w' ⟨rfl, ⟨nd, rfl⟩⟩))
        go_meet
        case rel => exact ⟨_, (true), (by first | rfl | (simp; done) | (simp [*]; done)), H', ⟨by first | omega | exact Nat.le_refl _⟩, ⟨by repeat (first | (with_reducible first | exact HB.out | apply below_alloc | apply pw_below_drewN | apply below_drew1) | exact HB.out)⟩⟩
    · replace c5 := Bool.eq_false_iff.mpr c5
      subst c5
      have H1 : (culletlaw03_Gf16Traces.j0 k a0 a1 true) = some r := by rw [if_neg (show ¬ (false = true) by decide)] at H; exact H
      clear H
      have H := H1
      clear H1
      have H' := Aside0.mk H
      clear H
      go_wp2_with (first | ((with_reducible refine gate_callee (f := 17) rfl ?_); refine goesL_ (some 8) rfl rfl Try.func17 (by kernel_rfl) rfl #[] rfl (by (try simp only [List.map_toArray, List.map_cons, List.map_nil]); first | done | rfl | (simp only [List.length_drop, List.length_take]; rfl)) ?_; (with_reducible refine (culletlaw03_fixed.calls k  false _ A4.out).mono ?_); rintro e w' ⟨rfl, ⟨nd, rfl⟩⟩; refine ⟨_, rfl, ?_⟩))
      go_meet
      case rel => exact ⟨_, (true), (by first | rfl | (simp; done) | (simp [*]; done)), H', ⟨by first | omega | exact Nat.le_refl _⟩, ⟨by repeat (first | (with_reducible first | exact HB.out | apply below_alloc | apply pw_below_drewN | apply below_drew1) | exact HB.out)⟩⟩
  case rest =>
    clear HC3
    try clear c1
    try clear p2
    try clear c5
    try clear c7
    try clear c7b0
    try clear c7b1
    try clear c9
    try clear c10
    obtain ⟨kq, x23_2, rfl, HA, HJ2, HB⟩ := hcut
    cases kq with
    | zero => exact absurd HA.out (by simp [culletlaw03_Gf16Traces.j0])
    | succ kj2 =>
      have H := HA.out
      clear HA
      simp only [culletlaw03_Gf16Traces.j0] at H
      by_cases c14 : x23_2 = true
      · subst c14
        have H1 : (some false) = some r := by rw [if_pos rfl] at H; exact H
        clear H
        have H := H1
        clear H1
        obtain rfl := Option.some.inj H
        go_wp2
        go_ret
        exact ⟨by first | rfl | (simp [errW_none, errW_some] <;> rfl) | (simp [*, errW_none, errW_some] <;> rfl), by repeat (first | (with_reducible first | exact HB.out | apply below_alloc | apply pw_below_drewN | apply below_drew1) | exact HB.out)⟩
      · replace c14 := Bool.eq_false_iff.mpr c14
        subst c14
        have H1 : ((gf16_Mul.f kj2 a0 a0).bind fun t180 => ((gf16_Mul.f kj2 (Go.bits .xor .u16 a0 a1) (Go.bits .xor .u16 a0 a1)).bind fun t181 => ((gf16_Mul.f kj2 a1 a1).bind fun t182 => (if t181 = (Go.bits .xor .u16 t180 t182) then ((gf16_Trace.f kj2 a0).bind fun t183 => ((gf16_Trace.f kj2 a1).bind fun t184 => (if t183 = 0 then (if t184 = 0 then ((gf16_Trace.f kj2 (Go.bits .xor .u16 a0 a1)).bind fun t185 => (if t185 = (Go.bits .xor .i64 t183 t184) then ((gf16_Trace.f kj2 t180).bind fun t186 => (some (t186 == t183))) else (some false))) else (if t184 = 1 then ((gf16_Trace.f kj2 (Go.bits .xor .u16 a0 a1)).bind fun t187 => (if t187 = (Go.bits .xor .i64 t183 t184) then ((gf16_Trace.f kj2 t180).bind fun t188 => (some (t188 == t183))) else (some false))) else (some false))) else (if t183 = 1 then (if t184 = 0 then ((gf16_Trace.f kj2 (Go.bits .xor .u16 a0 a1)).bind fun t189 => (if t189 = (Go.bits .xor .i64 t183 t184) then ((gf16_Trace.f kj2 t180).bind fun t190 => (some (t190 == t183))) else (some false))) else (if t184 = 1 then ((gf16_Trace.f kj2 (Go.bits .xor .u16 a0 a1)).bind fun t191 => (if t191 = (Go.bits .xor .i64 t183 t184) then ((gf16_Trace.f kj2 t180).bind fun t192 => (some (t192 == t183))) else (some false))) else (some false))) else (some false))))) else (some false))))) = some r := by rw [if_neg (show ¬ (false = true) by decide)] at H; exact H
        clear H
        have H := H1
        clear H1
        replace H := Option.bind_eq_some_iff.mp H
        obtain ⟨t180, A150, H⟩ := H
        replace H : ((gf16_Mul.f kj2 (Go.bits .xor .u16 a0 a1) (Go.bits .xor .u16 a0 a1)).bind fun t181 => ((gf16_Mul.f kj2 a1 a1).bind fun t182 => (if t181 = (Go.bits .xor .u16 t180 t182) then ((gf16_Trace.f kj2 a0).bind fun t183 => ((gf16_Trace.f kj2 a1).bind fun t184 => (if t183 = 0 then (if t184 = 0 then ((gf16_Trace.f kj2 (Go.bits .xor .u16 a0 a1)).bind fun t185 => (if t185 = (Go.bits .xor .i64 t183 t184) then ((gf16_Trace.f kj2 t180).bind fun t186 => (some (t186 == t183))) else (some false))) else (if t184 = 1 then ((gf16_Trace.f kj2 (Go.bits .xor .u16 a0 a1)).bind fun t187 => (if t187 = (Go.bits .xor .i64 t183 t184) then ((gf16_Trace.f kj2 t180).bind fun t188 => (some (t188 == t183))) else (some false))) else (some false))) else (if t183 = 1 then (if t184 = 0 then ((gf16_Trace.f kj2 (Go.bits .xor .u16 a0 a1)).bind fun t189 => (if t189 = (Go.bits .xor .i64 t183 t184) then ((gf16_Trace.f kj2 t180).bind fun t190 => (some (t190 == t183))) else (some false))) else (if t184 = 1 then ((gf16_Trace.f kj2 (Go.bits .xor .u16 a0 a1)).bind fun t191 => (if t191 = (Go.bits .xor .i64 t183 t184) then ((gf16_Trace.f kj2 t180).bind fun t192 => (some (t192 == t183))) else (some false))) else (some false))) else (some false))))) else (some false)))) = some r := H
        have A15 := Aside0.mk A150
        clear A150
        replace H := Option.bind_eq_some_iff.mp H
        obtain ⟨t181, A160, H⟩ := H
        replace H : ((gf16_Mul.f kj2 a1 a1).bind fun t182 => (if t181 = (Go.bits .xor .u16 t180 t182) then ((gf16_Trace.f kj2 a0).bind fun t183 => ((gf16_Trace.f kj2 a1).bind fun t184 => (if t183 = 0 then (if t184 = 0 then ((gf16_Trace.f kj2 (Go.bits .xor .u16 a0 a1)).bind fun t185 => (if t185 = (Go.bits .xor .i64 t183 t184) then ((gf16_Trace.f kj2 t180).bind fun t186 => (some (t186 == t183))) else (some false))) else (if t184 = 1 then ((gf16_Trace.f kj2 (Go.bits .xor .u16 a0 a1)).bind fun t187 => (if t187 = (Go.bits .xor .i64 t183 t184) then ((gf16_Trace.f kj2 t180).bind fun t188 => (some (t188 == t183))) else (some false))) else (some false))) else (if t183 = 1 then (if t184 = 0 then ((gf16_Trace.f kj2 (Go.bits .xor .u16 a0 a1)).bind fun t189 => (if t189 = (Go.bits .xor .i64 t183 t184) then ((gf16_Trace.f kj2 t180).bind fun t190 => (some (t190 == t183))) else (some false))) else (if t184 = 1 then ((gf16_Trace.f kj2 (Go.bits .xor .u16 a0 a1)).bind fun t191 => (if t191 = (Go.bits .xor .i64 t183 t184) then ((gf16_Trace.f kj2 t180).bind fun t192 => (some (t192 == t183))) else (some false))) else (some false))) else (some false))))) else (some false))) = some r := H
        have A16 := Aside0.mk A160
        clear A160
        replace H := Option.bind_eq_some_iff.mp H
        obtain ⟨t182, A170, H⟩ := H
        replace H : (if t181 = (Go.bits .xor .u16 t180 t182) then ((gf16_Trace.f kj2 a0).bind fun t183 => ((gf16_Trace.f kj2 a1).bind fun t184 => (if t183 = 0 then (if t184 = 0 then ((gf16_Trace.f kj2 (Go.bits .xor .u16 a0 a1)).bind fun t185 => (if t185 = (Go.bits .xor .i64 t183 t184) then ((gf16_Trace.f kj2 t180).bind fun t186 => (some (t186 == t183))) else (some false))) else (if t184 = 1 then ((gf16_Trace.f kj2 (Go.bits .xor .u16 a0 a1)).bind fun t187 => (if t187 = (Go.bits .xor .i64 t183 t184) then ((gf16_Trace.f kj2 t180).bind fun t188 => (some (t188 == t183))) else (some false))) else (some false))) else (if t183 = 1 then (if t184 = 0 then ((gf16_Trace.f kj2 (Go.bits .xor .u16 a0 a1)).bind fun t189 => (if t189 = (Go.bits .xor .i64 t183 t184) then ((gf16_Trace.f kj2 t180).bind fun t190 => (some (t190 == t183))) else (some false))) else (if t184 = 1 then ((gf16_Trace.f kj2 (Go.bits .xor .u16 a0 a1)).bind fun t191 => (if t191 = (Go.bits .xor .i64 t183 t184) then ((gf16_Trace.f kj2 t180).bind fun t192 => (some (t192 == t183))) else (some false))) else (some false))) else (some false))))) else (some false)) = some r := H
        have A17 := Aside0.mk A170
        clear A170
        by_cases c18 : t181 = (Go.bits .xor .u16 t180 t182)
        · rw [if_pos c18] at H
          have c18b0 : (t181 == (Go.bits .xor .u16 t180 t182)) = true := beq_iff_eq.mpr c18
          have c18b1 : (t181 != (Go.bits .xor .u16 t180 t182)) = false := bne_eq_false_iff_eq.mpr c18
          clear c18
          replace H := Option.bind_eq_some_iff.mp H
          obtain ⟨t183, A190, H⟩ := H
          replace H : ((gf16_Trace.f kj2 a1).bind fun t184 => (if t183 = 0 then (if t184 = 0 then ((gf16_Trace.f kj2 (Go.bits .xor .u16 a0 a1)).bind fun t185 => (if t185 = (Go.bits .xor .i64 t183 t184) then ((gf16_Trace.f kj2 t180).bind fun t186 => (some (t186 == t183))) else (some false))) else (if t184 = 1 then ((gf16_Trace.f kj2 (Go.bits .xor .u16 a0 a1)).bind fun t187 => (if t187 = (Go.bits .xor .i64 t183 t184) then ((gf16_Trace.f kj2 t180).bind fun t188 => (some (t188 == t183))) else (some false))) else (some false))) else (if t183 = 1 then (if t184 = 0 then ((gf16_Trace.f kj2 (Go.bits .xor .u16 a0 a1)).bind fun t189 => (if t189 = (Go.bits .xor .i64 t183 t184) then ((gf16_Trace.f kj2 t180).bind fun t190 => (some (t190 == t183))) else (some false))) else (if t184 = 1 then ((gf16_Trace.f kj2 (Go.bits .xor .u16 a0 a1)).bind fun t191 => (if t191 = (Go.bits .xor .i64 t183 t184) then ((gf16_Trace.f kj2 t180).bind fun t192 => (some (t192 == t183))) else (some false))) else (some false))) else (some false)))) = some r := H
          have A19 := Aside0.mk A190
          clear A190
          replace H := Option.bind_eq_some_iff.mp H
          obtain ⟨t184, A200, H⟩ := H
          replace H : (if t183 = 0 then (if t184 = 0 then ((gf16_Trace.f kj2 (Go.bits .xor .u16 a0 a1)).bind fun t185 => (if t185 = (Go.bits .xor .i64 t183 t184) then ((gf16_Trace.f kj2 t180).bind fun t186 => (some (t186 == t183))) else (some false))) else (if t184 = 1 then ((gf16_Trace.f kj2 (Go.bits .xor .u16 a0 a1)).bind fun t187 => (if t187 = (Go.bits .xor .i64 t183 t184) then ((gf16_Trace.f kj2 t180).bind fun t188 => (some (t188 == t183))) else (some false))) else (some false))) else (if t183 = 1 then (if t184 = 0 then ((gf16_Trace.f kj2 (Go.bits .xor .u16 a0 a1)).bind fun t189 => (if t189 = (Go.bits .xor .i64 t183 t184) then ((gf16_Trace.f kj2 t180).bind fun t190 => (some (t190 == t183))) else (some false))) else (if t184 = 1 then ((gf16_Trace.f kj2 (Go.bits .xor .u16 a0 a1)).bind fun t191 => (if t191 = (Go.bits .xor .i64 t183 t184) then ((gf16_Trace.f kj2 t180).bind fun t192 => (some (t192 == t183))) else (some false))) else (some false))) else (some false))) = some r := H
          have A20 := Aside0.mk A200
          clear A200
          by_cases c21 : t183 = 0
          · rw [if_pos c21] at H
            have c21b0 : (t183 == 0) = true := beq_iff_eq.mpr c21
            have c21b1 : (t183 != 0) = false := bne_eq_false_iff_eq.mpr c21
            clear c21
            by_cases c22 : t184 = 0
            · rw [if_pos c22] at H
              have c22b0 : (t184 == 0) = true := beq_iff_eq.mpr c22
              have c22b1 : (t184 != 0) = false := bne_eq_false_iff_eq.mpr c22
              clear c22
              replace H := Option.bind_eq_some_iff.mp H
              obtain ⟨t185, A230, H⟩ := H
              replace H : (if t185 = (Go.bits .xor .i64 t183 t184) then ((gf16_Trace.f kj2 t180).bind fun t186 => (some (t186 == t183))) else (some false)) = some r := H
              have A23 := Aside0.mk A230
              clear A230
              by_cases c24 : t185 = (Go.bits .xor .i64 t183 t184)
              · rw [if_pos c24] at H
                have c24b0 : (t185 == (Go.bits .xor .i64 t183 t184)) = true := beq_iff_eq.mpr c24
                have c24b1 : (t185 != (Go.bits .xor .i64 t183 t184)) = false := bne_eq_false_iff_eq.mpr c24
                clear c24
                replace H := Option.bind_eq_some_iff.mp H
                obtain ⟨t186, A250, H⟩ := H
                replace H : (some (t186 == t183)) = some r := H
                have A25 := Aside0.mk A250
                clear A250
                obtain rfl := Option.some.inj H
                go_wp2_with (first | ((with_reducible refine gate_callee (f := 18) rfl ?_); refine goesL_ (some 26) rfl rfl Try.func18 (by kernel_rfl) rfl #[.int .u16 a0, .int .u16 a0] rfl (by (try simp only [List.map_toArray, List.map_cons, List.map_nil]); first | done | rfl | (simp only [List.length_drop, List.length_take]; rfl)) ?_; (with_reducible refine (gf16_Mul.calls kj2 a0 a0 t180 _ A15.out).mono ?_); rintro e w' ⟨rfl, ⟨nd, rfl⟩⟩; refine ⟨_, rfl, ?_⟩) | ((with_reducible refine gate_callee (f := 18) rfl ?_); refine goesL_ (some 33) rfl rfl Try.func18 (by kernel_rfl) rfl #[.int .u16 (Go.bits .xor .u16 a0 a1), .int .u16 (Go.bits .xor .u16 a0 a1)] rfl (by (try simp only [List.map_toArray, List.map_cons, List.map_nil]); first | done | rfl | (simp only [List.length_drop, List.length_take]; rfl)) ?_; (with_reducible refine (gf16_Mul.calls kj2 (Go.bits .xor .u16 a0 a1) (Go.bits .xor .u16 a0 a1) t181 _ A16.out).mono ?_); rintro e w' ⟨rfl, ⟨nd, rfl⟩⟩; refine ⟨_, rfl, ?_⟩) | ((with_reducible refine gate_callee (f := 18) rfl ?_); refine goesL_ (some 37) rfl rfl Try.func18 (by kernel_rfl) rfl #[.int .u16 a1, .int .u16 a1] rfl (by (try simp only [List.map_toArray, List.map_cons, List.map_nil]); first | done | rfl | (simp only [List.length_drop, List.length_take]; rfl)) ?_; (with_reducible refine (gf16_Mul.calls kj2 a1 a1 t182 _ A17.out).mono ?_); rintro e w' ⟨rfl, ⟨nd, rfl⟩⟩; refine ⟨_, rfl, ?_⟩) | ((with_reducible refine gate_callee (f := 30) rfl ?_); refine goesL_ (some 41) rfl rfl Try.func30 (by kernel_rfl) rfl #[.int .u16 a0] rfl (by (try simp only [List.map_toArray, List.map_cons, List.map_nil]); first | done | rfl | (simp only [List.length_drop, List.length_take]; rfl)) ?_; (with_reducible refine (gf16_Trace.calls kj2 a0 t183 _ A19.out).mono ?_); rintro e w' ⟨rfl, ⟨nd, rfl⟩⟩; refine ⟨_, rfl, ?_⟩) | ((with_reducible refine gate_callee (f := 30) rfl ?_); refine goesL_ (some 43) rfl rfl Try.func30 (by kernel_rfl) rfl #[.int .u16 a1] rfl (by (try simp only [List.map_toArray, List.map_cons, List.map_nil]); first | done | rfl | (simp only [List.length_drop, List.length_take]; rfl)) ?_; (with_reducible refine (gf16_Trace.calls kj2 a1 t184 _ A20.out).mono ?_); rintro e w' ⟨rfl, ⟨nd, rfl⟩⟩; refine ⟨_, rfl, ?_⟩) | (go_at_call 30; (with_reducible refine (gf16_Trace.calls kj2 (Go.bits .xor .u16 a0 a1) t185 _ A23.out).mono ?_); rintro e w' ⟨rfl, ⟨nd, rfl⟩⟩) | (go_at_call 30; (with_reducible refine (gf16_Trace.calls kj2 t180 t186 _ A25.out).mono ?_); rintro e w' ⟨rfl, ⟨nd, rfl⟩⟩))
                go_ret
                exact ⟨by first | rfl | (simp [errW_none, errW_some] <;> rfl) | (simp [*, errW_none, errW_some] <;> rfl), by repeat (first | (with_reducible first | exact HB.out | apply below_alloc | apply pw_below_drewN | apply below_drew1) | exact HB.out)⟩
              · rw [if_neg c24] at H
                have c24b0 : (t185 == (Go.bits .xor .i64 t183 t184)) = false := beq_eq_false_iff_ne.mpr c24
                have c24b1 : (t185 != (Go.bits .xor .i64 t183 t184)) = true := bne_iff_ne.mpr c24
                obtain rfl := Option.some.inj H
                go_wp2_with (first | ((with_reducible refine gate_callee (f := 18) rfl ?_); refine goesL_ (some 26) rfl rfl Try.func18 (by kernel_rfl) rfl #[.int .u16 a0, .int .u16 a0] rfl (by (try simp only [List.map_toArray, List.map_cons, List.map_nil]); first | done | rfl | (simp only [List.length_drop, List.length_take]; rfl)) ?_; (with_reducible refine (gf16_Mul.calls kj2 a0 a0 t180 _ A15.out).mono ?_); rintro e w' ⟨rfl, ⟨nd, rfl⟩⟩; refine ⟨_, rfl, ?_⟩) | ((with_reducible refine gate_callee (f := 18) rfl ?_); refine goesL_ (some 33) rfl rfl Try.func18 (by kernel_rfl) rfl #[.int .u16 (Go.bits .xor .u16 a0 a1), .int .u16 (Go.bits .xor .u16 a0 a1)] rfl (by (try simp only [List.map_toArray, List.map_cons, List.map_nil]); first | done | rfl | (simp only [List.length_drop, List.length_take]; rfl)) ?_; (with_reducible refine (gf16_Mul.calls kj2 (Go.bits .xor .u16 a0 a1) (Go.bits .xor .u16 a0 a1) t181 _ A16.out).mono ?_); rintro e w' ⟨rfl, ⟨nd, rfl⟩⟩; refine ⟨_, rfl, ?_⟩) | ((with_reducible refine gate_callee (f := 18) rfl ?_); refine goesL_ (some 37) rfl rfl Try.func18 (by kernel_rfl) rfl #[.int .u16 a1, .int .u16 a1] rfl (by (try simp only [List.map_toArray, List.map_cons, List.map_nil]); first | done | rfl | (simp only [List.length_drop, List.length_take]; rfl)) ?_; (with_reducible refine (gf16_Mul.calls kj2 a1 a1 t182 _ A17.out).mono ?_); rintro e w' ⟨rfl, ⟨nd, rfl⟩⟩; refine ⟨_, rfl, ?_⟩) | ((with_reducible refine gate_callee (f := 30) rfl ?_); refine goesL_ (some 41) rfl rfl Try.func30 (by kernel_rfl) rfl #[.int .u16 a0] rfl (by (try simp only [List.map_toArray, List.map_cons, List.map_nil]); first | done | rfl | (simp only [List.length_drop, List.length_take]; rfl)) ?_; (with_reducible refine (gf16_Trace.calls kj2 a0 t183 _ A19.out).mono ?_); rintro e w' ⟨rfl, ⟨nd, rfl⟩⟩; refine ⟨_, rfl, ?_⟩) | ((with_reducible refine gate_callee (f := 30) rfl ?_); refine goesL_ (some 43) rfl rfl Try.func30 (by kernel_rfl) rfl #[.int .u16 a1] rfl (by (try simp only [List.map_toArray, List.map_cons, List.map_nil]); first | done | rfl | (simp only [List.length_drop, List.length_take]; rfl)) ?_; (with_reducible refine (gf16_Trace.calls kj2 a1 t184 _ A20.out).mono ?_); rintro e w' ⟨rfl, ⟨nd, rfl⟩⟩; refine ⟨_, rfl, ?_⟩) | (go_at_call 30; (with_reducible refine (gf16_Trace.calls kj2 (Go.bits .xor .u16 a0 a1) t185 _ A23.out).mono ?_); rintro e w' ⟨rfl, ⟨nd, rfl⟩⟩))
                go_ret
                exact ⟨by first | rfl | (simp [errW_none, errW_some] <;> rfl) | (simp [*, errW_none, errW_some] <;> rfl), by repeat (first | (with_reducible first | exact HB.out | apply below_alloc | apply pw_below_drewN | apply below_drew1) | exact HB.out)⟩
            · rw [if_neg c22] at H
              have c22b0 : (t184 == 0) = false := beq_eq_false_iff_ne.mpr c22
              have c22b1 : (t184 != 0) = true := bne_iff_ne.mpr c22
              by_cases c26 : t184 = 1
              · rw [if_pos c26] at H
                have c26b0 : (t184 == 1) = true := beq_iff_eq.mpr c26
                have c26b1 : (t184 != 1) = false := bne_eq_false_iff_eq.mpr c26
                clear c26
                replace H := Option.bind_eq_some_iff.mp H
                obtain ⟨t187, A270, H⟩ := H
                replace H : (if t187 = (Go.bits .xor .i64 t183 t184) then ((gf16_Trace.f kj2 t180).bind fun t188 => (some (t188 == t183))) else (some false)) = some r := H
                have A27 := Aside0.mk A270
                clear A270
                by_cases c28 : t187 = (Go.bits .xor .i64 t183 t184)
                · rw [if_pos c28] at H
                  have c28b0 : (t187 == (Go.bits .xor .i64 t183 t184)) = true := beq_iff_eq.mpr c28
                  have c28b1 : (t187 != (Go.bits .xor .i64 t183 t184)) = false := bne_eq_false_iff_eq.mpr c28
                  clear c28
                  replace H := Option.bind_eq_some_iff.mp H
                  obtain ⟨t188, A290, H⟩ := H
                  replace H : (some (t188 == t183)) = some r := H
                  have A29 := Aside0.mk A290
                  clear A290
                  obtain rfl := Option.some.inj H
                  go_wp2_with (first | ((with_reducible refine gate_callee (f := 18) rfl ?_); refine goesL_ (some 26) rfl rfl Try.func18 (by kernel_rfl) rfl #[.int .u16 a0, .int .u16 a0] rfl (by (try simp only [List.map_toArray, List.map_cons, List.map_nil]); first | done | rfl | (simp only [List.length_drop, List.length_take]; rfl)) ?_; (with_reducible refine (gf16_Mul.calls kj2 a0 a0 t180 _ A15.out).mono ?_); rintro e w' ⟨rfl, ⟨nd, rfl⟩⟩; refine ⟨_, rfl, ?_⟩) | ((with_reducible refine gate_callee (f := 18) rfl ?_); refine goesL_ (some 33) rfl rfl Try.func18 (by kernel_rfl) rfl #[.int .u16 (Go.bits .xor .u16 a0 a1), .int .u16 (Go.bits .xor .u16 a0 a1)] rfl (by (try simp only [List.map_toArray, List.map_cons, List.map_nil]); first | done | rfl | (simp only [List.length_drop, List.length_take]; rfl)) ?_; (with_reducible refine (gf16_Mul.calls kj2 (Go.bits .xor .u16 a0 a1) (Go.bits .xor .u16 a0 a1) t181 _ A16.out).mono ?_); rintro e w' ⟨rfl, ⟨nd, rfl⟩⟩; refine ⟨_, rfl, ?_⟩) | ((with_reducible refine gate_callee (f := 18) rfl ?_); refine goesL_ (some 37) rfl rfl Try.func18 (by kernel_rfl) rfl #[.int .u16 a1, .int .u16 a1] rfl (by (try simp only [List.map_toArray, List.map_cons, List.map_nil]); first | done | rfl | (simp only [List.length_drop, List.length_take]; rfl)) ?_; (with_reducible refine (gf16_Mul.calls kj2 a1 a1 t182 _ A17.out).mono ?_); rintro e w' ⟨rfl, ⟨nd, rfl⟩⟩; refine ⟨_, rfl, ?_⟩) | ((with_reducible refine gate_callee (f := 30) rfl ?_); refine goesL_ (some 41) rfl rfl Try.func30 (by kernel_rfl) rfl #[.int .u16 a0] rfl (by (try simp only [List.map_toArray, List.map_cons, List.map_nil]); first | done | rfl | (simp only [List.length_drop, List.length_take]; rfl)) ?_; (with_reducible refine (gf16_Trace.calls kj2 a0 t183 _ A19.out).mono ?_); rintro e w' ⟨rfl, ⟨nd, rfl⟩⟩; refine ⟨_, rfl, ?_⟩) | ((with_reducible refine gate_callee (f := 30) rfl ?_); refine goesL_ (some 43) rfl rfl Try.func30 (by kernel_rfl) rfl #[.int .u16 a1] rfl (by (try simp only [List.map_toArray, List.map_cons, List.map_nil]); first | done | rfl | (simp only [List.length_drop, List.length_take]; rfl)) ?_; (with_reducible refine (gf16_Trace.calls kj2 a1 t184 _ A20.out).mono ?_); rintro e w' ⟨rfl, ⟨nd, rfl⟩⟩; refine ⟨_, rfl, ?_⟩) | (go_at_call 30; (with_reducible refine (gf16_Trace.calls kj2 (Go.bits .xor .u16 a0 a1) t187 _ A27.out).mono ?_); rintro e w' ⟨rfl, ⟨nd, rfl⟩⟩) | (go_at_call 30; (with_reducible refine (gf16_Trace.calls kj2 t180 t188 _ A29.out).mono ?_); rintro e w' ⟨rfl, ⟨nd, rfl⟩⟩))
                  go_ret
                  exact ⟨by first | rfl | (simp [errW_none, errW_some] <;> rfl) | (simp [*, errW_none, errW_some] <;> rfl), by repeat (first | (with_reducible first | exact HB.out | apply below_alloc | apply pw_below_drewN | apply below_drew1) | exact HB.out)⟩
                · rw [if_neg c28] at H
                  have c28b0 : (t187 == (Go.bits .xor .i64 t183 t184)) = false := beq_eq_false_iff_ne.mpr c28
                  have c28b1 : (t187 != (Go.bits .xor .i64 t183 t184)) = true := bne_iff_ne.mpr c28
                  obtain rfl := Option.some.inj H
                  go_wp2_with (first | ((with_reducible refine gate_callee (f := 18) rfl ?_); refine goesL_ (some 26) rfl rfl Try.func18 (by kernel_rfl) rfl #[.int .u16 a0, .int .u16 a0] rfl (by (try simp only [List.map_toArray, List.map_cons, List.map_nil]); first | done | rfl | (simp only [List.length_drop, List.length_take]; rfl)) ?_; (with_reducible refine (gf16_Mul.calls kj2 a0 a0 t180 _ A15.out).mono ?_); rintro e w' ⟨rfl, ⟨nd, rfl⟩⟩; refine ⟨_, rfl, ?_⟩) | ((with_reducible refine gate_callee (f := 18) rfl ?_); refine goesL_ (some 33) rfl rfl Try.func18 (by kernel_rfl) rfl #[.int .u16 (Go.bits .xor .u16 a0 a1), .int .u16 (Go.bits .xor .u16 a0 a1)] rfl (by (try simp only [List.map_toArray, List.map_cons, List.map_nil]); first | done | rfl | (simp only [List.length_drop, List.length_take]; rfl)) ?_; (with_reducible refine (gf16_Mul.calls kj2 (Go.bits .xor .u16 a0 a1) (Go.bits .xor .u16 a0 a1) t181 _ A16.out).mono ?_); rintro e w' ⟨rfl, ⟨nd, rfl⟩⟩; refine ⟨_, rfl, ?_⟩) | ((with_reducible refine gate_callee (f := 18) rfl ?_); refine goesL_ (some 37) rfl rfl Try.func18 (by kernel_rfl) rfl #[.int .u16 a1, .int .u16 a1] rfl (by (try simp only [List.map_toArray, List.map_cons, List.map_nil]); first | done | rfl | (simp only [List.length_drop, List.length_take]; rfl)) ?_; (with_reducible refine (gf16_Mul.calls kj2 a1 a1 t182 _ A17.out).mono ?_); rintro e w' ⟨rfl, ⟨nd, rfl⟩⟩; refine ⟨_, rfl, ?_⟩) | ((with_reducible refine gate_callee (f := 30) rfl ?_); refine goesL_ (some 41) rfl rfl Try.func30 (by kernel_rfl) rfl #[.int .u16 a0] rfl (by (try simp only [List.map_toArray, List.map_cons, List.map_nil]); first | done | rfl | (simp only [List.length_drop, List.length_take]; rfl)) ?_; (with_reducible refine (gf16_Trace.calls kj2 a0 t183 _ A19.out).mono ?_); rintro e w' ⟨rfl, ⟨nd, rfl⟩⟩; refine ⟨_, rfl, ?_⟩) | ((with_reducible refine gate_callee (f := 30) rfl ?_); refine goesL_ (some 43) rfl rfl Try.func30 (by kernel_rfl) rfl #[.int .u16 a1] rfl (by (try simp only [List.map_toArray, List.map_cons, List.map_nil]); first | done | rfl | (simp only [List.length_drop, List.length_take]; rfl)) ?_; (with_reducible refine (gf16_Trace.calls kj2 a1 t184 _ A20.out).mono ?_); rintro e w' ⟨rfl, ⟨nd, rfl⟩⟩; refine ⟨_, rfl, ?_⟩) | (go_at_call 30; (with_reducible refine (gf16_Trace.calls kj2 (Go.bits .xor .u16 a0 a1) t187 _ A27.out).mono ?_); rintro e w' ⟨rfl, ⟨nd, rfl⟩⟩))
                  go_ret
                  exact ⟨by first | rfl | (simp [errW_none, errW_some] <;> rfl) | (simp [*, errW_none, errW_some] <;> rfl), by repeat (first | (with_reducible first | exact HB.out | apply below_alloc | apply pw_below_drewN | apply below_drew1) | exact HB.out)⟩
              · rw [if_neg c26] at H
                have c26b0 : (t184 == 1) = false := beq_eq_false_iff_ne.mpr c26
                have c26b1 : (t184 != 1) = true := bne_iff_ne.mpr c26
                obtain rfl := Option.some.inj H
                go_wp2_with (first | ((with_reducible refine gate_callee (f := 18) rfl ?_); refine goesL_ (some 26) rfl rfl Try.func18 (by kernel_rfl) rfl #[.int .u16 a0, .int .u16 a0] rfl (by (try simp only [List.map_toArray, List.map_cons, List.map_nil]); first | done | rfl | (simp only [List.length_drop, List.length_take]; rfl)) ?_; (with_reducible refine (gf16_Mul.calls kj2 a0 a0 t180 _ A15.out).mono ?_); rintro e w' ⟨rfl, ⟨nd, rfl⟩⟩; refine ⟨_, rfl, ?_⟩) | ((with_reducible refine gate_callee (f := 18) rfl ?_); refine goesL_ (some 33) rfl rfl Try.func18 (by kernel_rfl) rfl #[.int .u16 (Go.bits .xor .u16 a0 a1), .int .u16 (Go.bits .xor .u16 a0 a1)] rfl (by (try simp only [List.map_toArray, List.map_cons, List.map_nil]); first | done | rfl | (simp only [List.length_drop, List.length_take]; rfl)) ?_; (with_reducible refine (gf16_Mul.calls kj2 (Go.bits .xor .u16 a0 a1) (Go.bits .xor .u16 a0 a1) t181 _ A16.out).mono ?_); rintro e w' ⟨rfl, ⟨nd, rfl⟩⟩; refine ⟨_, rfl, ?_⟩) | ((with_reducible refine gate_callee (f := 18) rfl ?_); refine goesL_ (some 37) rfl rfl Try.func18 (by kernel_rfl) rfl #[.int .u16 a1, .int .u16 a1] rfl (by (try simp only [List.map_toArray, List.map_cons, List.map_nil]); first | done | rfl | (simp only [List.length_drop, List.length_take]; rfl)) ?_; (with_reducible refine (gf16_Mul.calls kj2 a1 a1 t182 _ A17.out).mono ?_); rintro e w' ⟨rfl, ⟨nd, rfl⟩⟩; refine ⟨_, rfl, ?_⟩) | ((with_reducible refine gate_callee (f := 30) rfl ?_); refine goesL_ (some 41) rfl rfl Try.func30 (by kernel_rfl) rfl #[.int .u16 a0] rfl (by (try simp only [List.map_toArray, List.map_cons, List.map_nil]); first | done | rfl | (simp only [List.length_drop, List.length_take]; rfl)) ?_; (with_reducible refine (gf16_Trace.calls kj2 a0 t183 _ A19.out).mono ?_); rintro e w' ⟨rfl, ⟨nd, rfl⟩⟩; refine ⟨_, rfl, ?_⟩) | ((with_reducible refine gate_callee (f := 30) rfl ?_); refine goesL_ (some 43) rfl rfl Try.func30 (by kernel_rfl) rfl #[.int .u16 a1] rfl (by (try simp only [List.map_toArray, List.map_cons, List.map_nil]); first | done | rfl | (simp only [List.length_drop, List.length_take]; rfl)) ?_; (with_reducible refine (gf16_Trace.calls kj2 a1 t184 _ A20.out).mono ?_); rintro e w' ⟨rfl, ⟨nd, rfl⟩⟩; refine ⟨_, rfl, ?_⟩))
                go_ret
                exact ⟨by first | rfl | (simp [errW_none, errW_some] <;> rfl) | (simp [*, errW_none, errW_some] <;> rfl), by repeat (first | (with_reducible first | exact HB.out | apply below_alloc | apply pw_below_drewN | apply below_drew1) | exact HB.out)⟩
          · rw [if_neg c21] at H
            have c21b0 : (t183 == 0) = false := beq_eq_false_iff_ne.mpr c21
            have c21b1 : (t183 != 0) = true := bne_iff_ne.mpr c21
            by_cases c30 : t183 = 1
            · rw [if_pos c30] at H
              have c30b0 : (t183 == 1) = true := beq_iff_eq.mpr c30
              have c30b1 : (t183 != 1) = false := bne_eq_false_iff_eq.mpr c30
              clear c30
              by_cases c31 : t184 = 0
              · rw [if_pos c31] at H
                have c31b0 : (t184 == 0) = true := beq_iff_eq.mpr c31
                have c31b1 : (t184 != 0) = false := bne_eq_false_iff_eq.mpr c31
                clear c31
                replace H := Option.bind_eq_some_iff.mp H
                obtain ⟨t189, A320, H⟩ := H
                replace H : (if t189 = (Go.bits .xor .i64 t183 t184) then ((gf16_Trace.f kj2 t180).bind fun t190 => (some (t190 == t183))) else (some false)) = some r := H
                have A32 := Aside0.mk A320
                clear A320
                by_cases c33 : t189 = (Go.bits .xor .i64 t183 t184)
                · rw [if_pos c33] at H
                  have c33b0 : (t189 == (Go.bits .xor .i64 t183 t184)) = true := beq_iff_eq.mpr c33
                  have c33b1 : (t189 != (Go.bits .xor .i64 t183 t184)) = false := bne_eq_false_iff_eq.mpr c33
                  clear c33
                  replace H := Option.bind_eq_some_iff.mp H
                  obtain ⟨t190, A340, H⟩ := H
                  replace H : (some (t190 == t183)) = some r := H
                  have A34 := Aside0.mk A340
                  clear A340
                  obtain rfl := Option.some.inj H
                  go_wp2_with (first | ((with_reducible refine gate_callee (f := 18) rfl ?_); refine goesL_ (some 26) rfl rfl Try.func18 (by kernel_rfl) rfl #[.int .u16 a0, .int .u16 a0] rfl (by (try simp only [List.map_toArray, List.map_cons, List.map_nil]); first | done | rfl | (simp only [List.length_drop, List.length_take]; rfl)) ?_; (with_reducible refine (gf16_Mul.calls kj2 a0 a0 t180 _ A15.out).mono ?_); rintro e w' ⟨rfl, ⟨nd, rfl⟩⟩; refine ⟨_, rfl, ?_⟩) | ((with_reducible refine gate_callee (f := 18) rfl ?_); refine goesL_ (some 33) rfl rfl Try.func18 (by kernel_rfl) rfl #[.int .u16 (Go.bits .xor .u16 a0 a1), .int .u16 (Go.bits .xor .u16 a0 a1)] rfl (by (try simp only [List.map_toArray, List.map_cons, List.map_nil]); first | done | rfl | (simp only [List.length_drop, List.length_take]; rfl)) ?_; (with_reducible refine (gf16_Mul.calls kj2 (Go.bits .xor .u16 a0 a1) (Go.bits .xor .u16 a0 a1) t181 _ A16.out).mono ?_); rintro e w' ⟨rfl, ⟨nd, rfl⟩⟩; refine ⟨_, rfl, ?_⟩) | ((with_reducible refine gate_callee (f := 18) rfl ?_); refine goesL_ (some 37) rfl rfl Try.func18 (by kernel_rfl) rfl #[.int .u16 a1, .int .u16 a1] rfl (by (try simp only [List.map_toArray, List.map_cons, List.map_nil]); first | done | rfl | (simp only [List.length_drop, List.length_take]; rfl)) ?_; (with_reducible refine (gf16_Mul.calls kj2 a1 a1 t182 _ A17.out).mono ?_); rintro e w' ⟨rfl, ⟨nd, rfl⟩⟩; refine ⟨_, rfl, ?_⟩) | ((with_reducible refine gate_callee (f := 30) rfl ?_); refine goesL_ (some 41) rfl rfl Try.func30 (by kernel_rfl) rfl #[.int .u16 a0] rfl (by (try simp only [List.map_toArray, List.map_cons, List.map_nil]); first | done | rfl | (simp only [List.length_drop, List.length_take]; rfl)) ?_; (with_reducible refine (gf16_Trace.calls kj2 a0 t183 _ A19.out).mono ?_); rintro e w' ⟨rfl, ⟨nd, rfl⟩⟩; refine ⟨_, rfl, ?_⟩) | ((with_reducible refine gate_callee (f := 30) rfl ?_); refine goesL_ (some 43) rfl rfl Try.func30 (by kernel_rfl) rfl #[.int .u16 a1] rfl (by (try simp only [List.map_toArray, List.map_cons, List.map_nil]); first | done | rfl | (simp only [List.length_drop, List.length_take]; rfl)) ?_; (with_reducible refine (gf16_Trace.calls kj2 a1 t184 _ A20.out).mono ?_); rintro e w' ⟨rfl, ⟨nd, rfl⟩⟩; refine ⟨_, rfl, ?_⟩) | (go_at_call 30; (with_reducible refine (gf16_Trace.calls kj2 (Go.bits .xor .u16 a0 a1) t189 _ A32.out).mono ?_); rintro e w' ⟨rfl, ⟨nd, rfl⟩⟩) | (go_at_call 30; (with_reducible refine (gf16_Trace.calls kj2 t180 t190 _ A34.out).mono ?_); rintro e w' ⟨rfl, ⟨nd, rfl⟩⟩))
                  go_ret
                  exact ⟨by first | rfl | (simp [errW_none, errW_some] <;> rfl) | (simp [*, errW_none, errW_some] <;> rfl), by repeat (first | (with_reducible first | exact HB.out | apply below_alloc | apply pw_below_drewN | apply below_drew1) | exact HB.out)⟩
                · rw [if_neg c33] at H
                  have c33b0 : (t189 == (Go.bits .xor .i64 t183 t184)) = false := beq_eq_false_iff_ne.mpr c33
                  have c33b1 : (t189 != (Go.bits .xor .i64 t183 t184)) = true := bne_iff_ne.mpr c33
                  obtain rfl := Option.some.inj H
                  go_wp2_with (first | ((with_reducible refine gate_callee (f := 18) rfl ?_); refine goesL_ (some 26) rfl rfl Try.func18 (by kernel_rfl) rfl #[.int .u16 a0, .int .u16 a0] rfl (by (try simp only [List.map_toArray, List.map_cons, List.map_nil]); first | done | rfl | (simp only [List.length_drop, List.length_take]; rfl)) ?_; (with_reducible refine (gf16_Mul.calls kj2 a0 a0 t180 _ A15.out).mono ?_); rintro e w' ⟨rfl, ⟨nd, rfl⟩⟩; refine ⟨_, rfl, ?_⟩) | ((with_reducible refine gate_callee (f := 18) rfl ?_); refine goesL_ (some 33) rfl rfl Try.func18 (by kernel_rfl) rfl #[.int .u16 (Go.bits .xor .u16 a0 a1), .int .u16 (Go.bits .xor .u16 a0 a1)] rfl (by (try simp only [List.map_toArray, List.map_cons, List.map_nil]); first | done | rfl | (simp only [List.length_drop, List.length_take]; rfl)) ?_; (with_reducible refine (gf16_Mul.calls kj2 (Go.bits .xor .u16 a0 a1) (Go.bits .xor .u16 a0 a1) t181 _ A16.out).mono ?_); rintro e w' ⟨rfl, ⟨nd, rfl⟩⟩; refine ⟨_, rfl, ?_⟩) | ((with_reducible refine gate_callee (f := 18) rfl ?_); refine goesL_ (some 37) rfl rfl Try.func18 (by kernel_rfl) rfl #[.int .u16 a1, .int .u16 a1] rfl (by (try simp only [List.map_toArray, List.map_cons, List.map_nil]); first | done | rfl | (simp only [List.length_drop, List.length_take]; rfl)) ?_; (with_reducible refine (gf16_Mul.calls kj2 a1 a1 t182 _ A17.out).mono ?_); rintro e w' ⟨rfl, ⟨nd, rfl⟩⟩; refine ⟨_, rfl, ?_⟩) | ((with_reducible refine gate_callee (f := 30) rfl ?_); refine goesL_ (some 41) rfl rfl Try.func30 (by kernel_rfl) rfl #[.int .u16 a0] rfl (by (try simp only [List.map_toArray, List.map_cons, List.map_nil]); first | done | rfl | (simp only [List.length_drop, List.length_take]; rfl)) ?_; (with_reducible refine (gf16_Trace.calls kj2 a0 t183 _ A19.out).mono ?_); rintro e w' ⟨rfl, ⟨nd, rfl⟩⟩; refine ⟨_, rfl, ?_⟩) | ((with_reducible refine gate_callee (f := 30) rfl ?_); refine goesL_ (some 43) rfl rfl Try.func30 (by kernel_rfl) rfl #[.int .u16 a1] rfl (by (try simp only [List.map_toArray, List.map_cons, List.map_nil]); first | done | rfl | (simp only [List.length_drop, List.length_take]; rfl)) ?_; (with_reducible refine (gf16_Trace.calls kj2 a1 t184 _ A20.out).mono ?_); rintro e w' ⟨rfl, ⟨nd, rfl⟩⟩; refine ⟨_, rfl, ?_⟩) | (go_at_call 30; (with_reducible refine (gf16_Trace.calls kj2 (Go.bits .xor .u16 a0 a1) t189 _ A32.out).mono ?_); rintro e w' ⟨rfl, ⟨nd, rfl⟩⟩))
                  go_ret
                  exact ⟨by first | rfl | (simp [errW_none, errW_some] <;> rfl) | (simp [*, errW_none, errW_some] <;> rfl), by repeat (first | (with_reducible first | exact HB.out | apply below_alloc | apply pw_below_drewN | apply below_drew1) | exact HB.out)⟩
              · rw [if_neg c31] at H
                have c31b0 : (t184 == 0) = false := beq_eq_false_iff_ne.mpr c31
                have c31b1 : (t184 != 0) = true := bne_iff_ne.mpr c31
                by_cases c35 : t184 = 1
                · rw [if_pos c35] at H
                  have c35b0 : (t184 == 1) = true := beq_iff_eq.mpr c35
                  have c35b1 : (t184 != 1) = false := bne_eq_false_iff_eq.mpr c35
                  clear c35
                  replace H := Option.bind_eq_some_iff.mp H
                  obtain ⟨t191, A360, H⟩ := H
                  replace H : (if t191 = (Go.bits .xor .i64 t183 t184) then ((gf16_Trace.f kj2 t180).bind fun t192 => (some (t192 == t183))) else (some false)) = some r := H
                  have A36 := Aside0.mk A360
                  clear A360
                  by_cases c37 : t191 = (Go.bits .xor .i64 t183 t184)
                  · rw [if_pos c37] at H
                    have c37b0 : (t191 == (Go.bits .xor .i64 t183 t184)) = true := beq_iff_eq.mpr c37
                    have c37b1 : (t191 != (Go.bits .xor .i64 t183 t184)) = false := bne_eq_false_iff_eq.mpr c37
                    clear c37
                    replace H := Option.bind_eq_some_iff.mp H
                    obtain ⟨t192, A380, H⟩ := H
                    replace H : (some (t192 == t183)) = some r := H
                    have A38 := Aside0.mk A380
                    clear A380
                    obtain rfl := Option.some.inj H
                    go_wp2_with (first | ((with_reducible refine gate_callee (f := 18) rfl ?_); refine goesL_ (some 26) rfl rfl Try.func18 (by kernel_rfl) rfl #[.int .u16 a0, .int .u16 a0] rfl (by (try simp only [List.map_toArray, List.map_cons, List.map_nil]); first | done | rfl | (simp only [List.length_drop, List.length_take]; rfl)) ?_; (with_reducible refine (gf16_Mul.calls kj2 a0 a0 t180 _ A15.out).mono ?_); rintro e w' ⟨rfl, ⟨nd, rfl⟩⟩; refine ⟨_, rfl, ?_⟩) | ((with_reducible refine gate_callee (f := 18) rfl ?_); refine goesL_ (some 33) rfl rfl Try.func18 (by kernel_rfl) rfl #[.int .u16 (Go.bits .xor .u16 a0 a1), .int .u16 (Go.bits .xor .u16 a0 a1)] rfl (by (try simp only [List.map_toArray, List.map_cons, List.map_nil]); first | done | rfl | (simp only [List.length_drop, List.length_take]; rfl)) ?_; (with_reducible refine (gf16_Mul.calls kj2 (Go.bits .xor .u16 a0 a1) (Go.bits .xor .u16 a0 a1) t181 _ A16.out).mono ?_); rintro e w' ⟨rfl, ⟨nd, rfl⟩⟩; refine ⟨_, rfl, ?_⟩) | ((with_reducible refine gate_callee (f := 18) rfl ?_); refine goesL_ (some 37) rfl rfl Try.func18 (by kernel_rfl) rfl #[.int .u16 a1, .int .u16 a1] rfl (by (try simp only [List.map_toArray, List.map_cons, List.map_nil]); first | done | rfl | (simp only [List.length_drop, List.length_take]; rfl)) ?_; (with_reducible refine (gf16_Mul.calls kj2 a1 a1 t182 _ A17.out).mono ?_); rintro e w' ⟨rfl, ⟨nd, rfl⟩⟩; refine ⟨_, rfl, ?_⟩) | ((with_reducible refine gate_callee (f := 30) rfl ?_); refine goesL_ (some 41) rfl rfl Try.func30 (by kernel_rfl) rfl #[.int .u16 a0] rfl (by (try simp only [List.map_toArray, List.map_cons, List.map_nil]); first | done | rfl | (simp only [List.length_drop, List.length_take]; rfl)) ?_; (with_reducible refine (gf16_Trace.calls kj2 a0 t183 _ A19.out).mono ?_); rintro e w' ⟨rfl, ⟨nd, rfl⟩⟩; refine ⟨_, rfl, ?_⟩) | ((with_reducible refine gate_callee (f := 30) rfl ?_); refine goesL_ (some 43) rfl rfl Try.func30 (by kernel_rfl) rfl #[.int .u16 a1] rfl (by (try simp only [List.map_toArray, List.map_cons, List.map_nil]); first | done | rfl | (simp only [List.length_drop, List.length_take]; rfl)) ?_; (with_reducible refine (gf16_Trace.calls kj2 a1 t184 _ A20.out).mono ?_); rintro e w' ⟨rfl, ⟨nd, rfl⟩⟩; refine ⟨_, rfl, ?_⟩) | (go_at_call 30; (with_reducible refine (gf16_Trace.calls kj2 (Go.bits .xor .u16 a0 a1) t191 _ A36.out).mono ?_); rintro e w' ⟨rfl, ⟨nd, rfl⟩⟩) | (go_at_call 30; (with_reducible refine (gf16_Trace.calls kj2 t180 t192 _ A38.out).mono ?_); rintro e w' ⟨rfl, ⟨nd, rfl⟩⟩))
                    go_ret
                    exact ⟨by first | rfl | (simp [errW_none, errW_some] <;> rfl) | (simp [*, errW_none, errW_some] <;> rfl), by repeat (first | (with_reducible first | exact HB.out | apply below_alloc | apply pw_below_drewN | apply below_drew1) | exact HB.out)⟩
                  · rw [if_neg c37] at H
                    have c37b0 : (t191 == (Go.bits .xor .i64 t183 t184)) = false := beq_eq_false_iff_ne.mpr c37
                    have c37b1 : (t191 != (Go.bits .xor .i64 t183 t184)) = true := bne_iff_ne.mpr c37
                    obtain rfl := Option.some.inj H
                    go_wp2_with (first | ((with_reducible refine gate_callee (f := 18) rfl ?_); refine goesL_ (some 26) rfl rfl Try.func18 (by kernel_rfl) rfl #[.int .u16 a0, .int .u16 a0] rfl (by (try simp only [List.map_toArray, List.map_cons, List.map_nil]); first | done | rfl | (simp only [List.length_drop, List.length_take]; rfl)) ?_; (with_reducible refine (gf16_Mul.calls kj2 a0 a0 t180 _ A15.out).mono ?_); rintro e w' ⟨rfl, ⟨nd, rfl⟩⟩; refine ⟨_, rfl, ?_⟩) | ((with_reducible refine gate_callee (f := 18) rfl ?_); refine goesL_ (some 33) rfl rfl Try.func18 (by kernel_rfl) rfl #[.int .u16 (Go.bits .xor .u16 a0 a1), .int .u16 (Go.bits .xor .u16 a0 a1)] rfl (by (try simp only [List.map_toArray, List.map_cons, List.map_nil]); first | done | rfl | (simp only [List.length_drop, List.length_take]; rfl)) ?_; (with_reducible refine (gf16_Mul.calls kj2 (Go.bits .xor .u16 a0 a1) (Go.bits .xor .u16 a0 a1) t181 _ A16.out).mono ?_); rintro e w' ⟨rfl, ⟨nd, rfl⟩⟩; refine ⟨_, rfl, ?_⟩) | ((with_reducible refine gate_callee (f := 18) rfl ?_); refine goesL_ (some 37) rfl rfl Try.func18 (by kernel_rfl) rfl #[.int .u16 a1, .int .u16 a1] rfl (by (try simp only [List.map_toArray, List.map_cons, List.map_nil]); first | done | rfl | (simp only [List.length_drop, List.length_take]; rfl)) ?_; (with_reducible refine (gf16_Mul.calls kj2 a1 a1 t182 _ A17.out).mono ?_); rintro e w' ⟨rfl, ⟨nd, rfl⟩⟩; refine ⟨_, rfl, ?_⟩) | ((with_reducible refine gate_callee (f := 30) rfl ?_); refine goesL_ (some 41) rfl rfl Try.func30 (by kernel_rfl) rfl #[.int .u16 a0] rfl (by (try simp only [List.map_toArray, List.map_cons, List.map_nil]); first | done | rfl | (simp only [List.length_drop, List.length_take]; rfl)) ?_; (with_reducible refine (gf16_Trace.calls kj2 a0 t183 _ A19.out).mono ?_); rintro e w' ⟨rfl, ⟨nd, rfl⟩⟩; refine ⟨_, rfl, ?_⟩) | ((with_reducible refine gate_callee (f := 30) rfl ?_); refine goesL_ (some 43) rfl rfl Try.func30 (by kernel_rfl) rfl #[.int .u16 a1] rfl (by (try simp only [List.map_toArray, List.map_cons, List.map_nil]); first | done | rfl | (simp only [List.length_drop, List.length_take]; rfl)) ?_; (with_reducible refine (gf16_Trace.calls kj2 a1 t184 _ A20.out).mono ?_); rintro e w' ⟨rfl, ⟨nd, rfl⟩⟩; refine ⟨_, rfl, ?_⟩) | (go_at_call 30; (with_reducible refine (gf16_Trace.calls kj2 (Go.bits .xor .u16 a0 a1) t191 _ A36.out).mono ?_); rintro e w' ⟨rfl, ⟨nd, rfl⟩⟩))
                    go_ret
                    exact ⟨by first | rfl | (simp [errW_none, errW_some] <;> rfl) | (simp [*, errW_none, errW_some] <;> rfl), by repeat (first | (with_reducible first | exact HB.out | apply below_alloc | apply pw_below_drewN | apply below_drew1) | exact HB.out)⟩
                · rw [if_neg c35] at H
                  have c35b0 : (t184 == 1) = false := beq_eq_false_iff_ne.mpr c35
                  have c35b1 : (t184 != 1) = true := bne_iff_ne.mpr c35
                  obtain rfl := Option.some.inj H
                  go_wp2_with (first | ((with_reducible refine gate_callee (f := 18) rfl ?_); refine goesL_ (some 26) rfl rfl Try.func18 (by kernel_rfl) rfl #[.int .u16 a0, .int .u16 a0] rfl (by (try simp only [List.map_toArray, List.map_cons, List.map_nil]); first | done | rfl | (simp only [List.length_drop, List.length_take]; rfl)) ?_; (with_reducible refine (gf16_Mul.calls kj2 a0 a0 t180 _ A15.out).mono ?_); rintro e w' ⟨rfl, ⟨nd, rfl⟩⟩; refine ⟨_, rfl, ?_⟩) | ((with_reducible refine gate_callee (f := 18) rfl ?_); refine goesL_ (some 33) rfl rfl Try.func18 (by kernel_rfl) rfl #[.int .u16 (Go.bits .xor .u16 a0 a1), .int .u16 (Go.bits .xor .u16 a0 a1)] rfl (by (try simp only [List.map_toArray, List.map_cons, List.map_nil]); first | done | rfl | (simp only [List.length_drop, List.length_take]; rfl)) ?_; (with_reducible refine (gf16_Mul.calls kj2 (Go.bits .xor .u16 a0 a1) (Go.bits .xor .u16 a0 a1) t181 _ A16.out).mono ?_); rintro e w' ⟨rfl, ⟨nd, rfl⟩⟩; refine ⟨_, rfl, ?_⟩) | ((with_reducible refine gate_callee (f := 18) rfl ?_); refine goesL_ (some 37) rfl rfl Try.func18 (by kernel_rfl) rfl #[.int .u16 a1, .int .u16 a1] rfl (by (try simp only [List.map_toArray, List.map_cons, List.map_nil]); first | done | rfl | (simp only [List.length_drop, List.length_take]; rfl)) ?_; (with_reducible refine (gf16_Mul.calls kj2 a1 a1 t182 _ A17.out).mono ?_); rintro e w' ⟨rfl, ⟨nd, rfl⟩⟩; refine ⟨_, rfl, ?_⟩) | ((with_reducible refine gate_callee (f := 30) rfl ?_); refine goesL_ (some 41) rfl rfl Try.func30 (by kernel_rfl) rfl #[.int .u16 a0] rfl (by (try simp only [List.map_toArray, List.map_cons, List.map_nil]); first | done | rfl | (simp only [List.length_drop, List.length_take]; rfl)) ?_; (with_reducible refine (gf16_Trace.calls kj2 a0 t183 _ A19.out).mono ?_); rintro e w' ⟨rfl, ⟨nd, rfl⟩⟩; refine ⟨_, rfl, ?_⟩) | ((with_reducible refine gate_callee (f := 30) rfl ?_); refine goesL_ (some 43) rfl rfl Try.func30 (by kernel_rfl) rfl #[.int .u16 a1] rfl (by (try simp only [List.map_toArray, List.map_cons, List.map_nil]); first | done | rfl | (simp only [List.length_drop, List.length_take]; rfl)) ?_; (with_reducible refine (gf16_Trace.calls kj2 a1 t184 _ A20.out).mono ?_); rintro e w' ⟨rfl, ⟨nd, rfl⟩⟩; refine ⟨_, rfl, ?_⟩))
                  go_ret
                  exact ⟨by first | rfl | (simp [errW_none, errW_some] <;> rfl) | (simp [*, errW_none, errW_some] <;> rfl), by repeat (first | (with_reducible first | exact HB.out | apply below_alloc | apply pw_below_drewN | apply below_drew1) | exact HB.out)⟩
            · rw [if_neg c30] at H
              have c30b0 : (t183 == 1) = false := beq_eq_false_iff_ne.mpr c30
              have c30b1 : (t183 != 1) = true := bne_iff_ne.mpr c30
              obtain rfl := Option.some.inj H
              go_wp2_with (first | ((with_reducible refine gate_callee (f := 18) rfl ?_); refine goesL_ (some 26) rfl rfl Try.func18 (by kernel_rfl) rfl #[.int .u16 a0, .int .u16 a0] rfl (by (try simp only [List.map_toArray, List.map_cons, List.map_nil]); first | done | rfl | (simp only [List.length_drop, List.length_take]; rfl)) ?_; (with_reducible refine (gf16_Mul.calls kj2 a0 a0 t180 _ A15.out).mono ?_); rintro e w' ⟨rfl, ⟨nd, rfl⟩⟩; refine ⟨_, rfl, ?_⟩) | ((with_reducible refine gate_callee (f := 18) rfl ?_); refine goesL_ (some 33) rfl rfl Try.func18 (by kernel_rfl) rfl #[.int .u16 (Go.bits .xor .u16 a0 a1), .int .u16 (Go.bits .xor .u16 a0 a1)] rfl (by (try simp only [List.map_toArray, List.map_cons, List.map_nil]); first | done | rfl | (simp only [List.length_drop, List.length_take]; rfl)) ?_; (with_reducible refine (gf16_Mul.calls kj2 (Go.bits .xor .u16 a0 a1) (Go.bits .xor .u16 a0 a1) t181 _ A16.out).mono ?_); rintro e w' ⟨rfl, ⟨nd, rfl⟩⟩; refine ⟨_, rfl, ?_⟩) | ((with_reducible refine gate_callee (f := 18) rfl ?_); refine goesL_ (some 37) rfl rfl Try.func18 (by kernel_rfl) rfl #[.int .u16 a1, .int .u16 a1] rfl (by (try simp only [List.map_toArray, List.map_cons, List.map_nil]); first | done | rfl | (simp only [List.length_drop, List.length_take]; rfl)) ?_; (with_reducible refine (gf16_Mul.calls kj2 a1 a1 t182 _ A17.out).mono ?_); rintro e w' ⟨rfl, ⟨nd, rfl⟩⟩; refine ⟨_, rfl, ?_⟩) | ((with_reducible refine gate_callee (f := 30) rfl ?_); refine goesL_ (some 41) rfl rfl Try.func30 (by kernel_rfl) rfl #[.int .u16 a0] rfl (by (try simp only [List.map_toArray, List.map_cons, List.map_nil]); first | done | rfl | (simp only [List.length_drop, List.length_take]; rfl)) ?_; (with_reducible refine (gf16_Trace.calls kj2 a0 t183 _ A19.out).mono ?_); rintro e w' ⟨rfl, ⟨nd, rfl⟩⟩; refine ⟨_, rfl, ?_⟩) | ((with_reducible refine gate_callee (f := 30) rfl ?_); refine goesL_ (some 43) rfl rfl Try.func30 (by kernel_rfl) rfl #[.int .u16 a1] rfl (by (try simp only [List.map_toArray, List.map_cons, List.map_nil]); first | done | rfl | (simp only [List.length_drop, List.length_take]; rfl)) ?_; (with_reducible refine (gf16_Trace.calls kj2 a1 t184 _ A20.out).mono ?_); rintro e w' ⟨rfl, ⟨nd, rfl⟩⟩; refine ⟨_, rfl, ?_⟩))
              go_ret
              exact ⟨by first | rfl | (simp [errW_none, errW_some] <;> rfl) | (simp [*, errW_none, errW_some] <;> rfl), by repeat (first | (with_reducible first | exact HB.out | apply below_alloc | apply pw_below_drewN | apply below_drew1) | exact HB.out)⟩
        · rw [if_neg c18] at H
          have c18b0 : (t181 == (Go.bits .xor .u16 t180 t182)) = false := beq_eq_false_iff_ne.mpr c18
          have c18b1 : (t181 != (Go.bits .xor .u16 t180 t182)) = true := bne_iff_ne.mpr c18
          obtain rfl := Option.some.inj H
          go_wp2_with (first | ((with_reducible refine gate_callee (f := 18) rfl ?_); refine goesL_ (some 26) rfl rfl Try.func18 (by kernel_rfl) rfl #[.int .u16 a0, .int .u16 a0] rfl (by (try simp only [List.map_toArray, List.map_cons, List.map_nil]); first | done | rfl | (simp only [List.length_drop, List.length_take]; rfl)) ?_; (with_reducible refine (gf16_Mul.calls kj2 a0 a0 t180 _ A15.out).mono ?_); rintro e w' ⟨rfl, ⟨nd, rfl⟩⟩; refine ⟨_, rfl, ?_⟩) | ((with_reducible refine gate_callee (f := 18) rfl ?_); refine goesL_ (some 33) rfl rfl Try.func18 (by kernel_rfl) rfl #[.int .u16 (Go.bits .xor .u16 a0 a1), .int .u16 (Go.bits .xor .u16 a0 a1)] rfl (by (try simp only [List.map_toArray, List.map_cons, List.map_nil]); first | done | rfl | (simp only [List.length_drop, List.length_take]; rfl)) ?_; (with_reducible refine (gf16_Mul.calls kj2 (Go.bits .xor .u16 a0 a1) (Go.bits .xor .u16 a0 a1) t181 _ A16.out).mono ?_); rintro e w' ⟨rfl, ⟨nd, rfl⟩⟩; refine ⟨_, rfl, ?_⟩) | ((with_reducible refine gate_callee (f := 18) rfl ?_); refine goesL_ (some 37) rfl rfl Try.func18 (by kernel_rfl) rfl #[.int .u16 a1, .int .u16 a1] rfl (by (try simp only [List.map_toArray, List.map_cons, List.map_nil]); first | done | rfl | (simp only [List.length_drop, List.length_take]; rfl)) ?_; (with_reducible refine (gf16_Mul.calls kj2 a1 a1 t182 _ A17.out).mono ?_); rintro e w' ⟨rfl, ⟨nd, rfl⟩⟩; refine ⟨_, rfl, ?_⟩))
          go_ret
          exact ⟨by first | rfl | (simp [errW_none, errW_some] <;> rfl) | (simp [*, errW_none, errW_some] <;> rfl), by repeat (first | (with_reducible first | exact HB.out | apply below_alloc | apply pw_below_drewN | apply below_drew1) | exact HB.out)⟩

/-- THE ONE PURE STATEMENT of culletlaw03_Gf16Traces: yours. -/
def culletlaw03_Gf16Traces.Pure : Prop := ∀ (a0 : Int) (a1 : Int), (Lit.int .u16 a0).wf = true → (Lit.int .u16 a1).wf = true → ∃ k, culletlaw03_Gf16Traces.f k a0 a1 = some true
theorem culletlaw03_Gf16Traces.walk (P : culletlaw03_Gf16Traces.Pure) (a0 : Int) (a1 : Int) (w : World) (w0 : (Lit.int .u16 a0).wf = true) (w1 : (Lit.int .u16 a1).wf = true) :
    Calls Try.prog 10 #[.int .u16 a0, .int .u16 a1] w fun e w' => e = .returned (.bool true) ∧ Below w.heap.size w w' := by
  obtain ⟨k, h⟩ := P a0 a1 w0 w1
  refine (culletlaw03_Gf16Traces.calls k a0 a1 true w h).mono ?_
  rintro e w' ⟨rfl, hd⟩
  exact ⟨rfl, hd⟩

end Go.Proofs.Ytedaifgbnojojaa.Q
