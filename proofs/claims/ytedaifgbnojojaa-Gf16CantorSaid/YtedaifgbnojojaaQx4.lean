-- Printed for this claim by mp.py, a program of its prover, through the kit's print. Lean checks it.
import Derived.Test.YtedaifgbnojojaaQx0
import Derived.Test.YtedaifgbnojojaaQx1
import Derived.Test.YtedaifgbnojojaaQx2
import Derived.Test.YtedaifgbnojojaaQx3
namespace Go.Proofs.Ytedaifgbnojojaa.Q
open Go.RowKit Go.Proofs.YtedaifgbnojojaaW.PrintWords Go.Proofs.YtedaifgbnojojaaW.PrintLast Go.Proofs.YtedaifgbnojojaaW.PrintMore
attribute [local go_sem] max2_int min2_int max_two min_two max_three min_three max_four min_four   -- for this text's walks alone
set_option linter.unusedVariables false
set_option linter.unusedSimpArgs false

/-! ### culletlaw03_Gf16Cantor: function 5 -/
mutual
def culletlaw03_Gf16Cantor.j0 : Nat → Int → Int → Bool → Option (Bool)
  | 0, _, _, _ => none
  | k + 1, x0, x1, x24 => if x24 = true then (some false) else ((gf16_Element.f (Go.bits .and .i64 x0 65535)).bind fun bt129 => ((gf16_Element.f (Go.bits .and .i64 x1 65535)).bind fun bt131 => ((gf16_Element.f (Go.bits .xor .i64 (Go.bits .and .i64 x0 65535) (Go.bits .and .i64 x1 65535))).bind fun bt133 => ((gf16_Element.f ((Go.bits .and .i64 x0 65535) / 2)).bind fun bt135 => (if bt129.2 = 0 then (if bt131.2 = 0 then (if bt133.2 = 0 then (culletlaw03_Gf16Cantor.j1 k (Go.bits .and .i64 x0 65535) (Go.bits .and .i64 x1 65535) bt129.1 bt131.1 bt133.1 bt135.1 (bt135.2 != 0)) else (culletlaw03_Gf16Cantor.j1 k (Go.bits .and .i64 x0 65535) (Go.bits .and .i64 x1 65535) bt129.1 bt131.1 bt133.1 bt135.1 true)) else (culletlaw03_Gf16Cantor.j1 k (Go.bits .and .i64 x0 65535) (Go.bits .and .i64 x1 65535) bt129.1 bt131.1 bt133.1 bt135.1 true)) else (culletlaw03_Gf16Cantor.j1 k (Go.bits .and .i64 x0 65535) (Go.bits .and .i64 x1 65535) bt129.1 bt131.1 bt133.1 bt135.1 true))))))
def culletlaw03_Gf16Cantor.j1 : Nat → Int → Int → Int → Int → Int → Int → Bool → Option (Bool)
  | 0, _, _, _, _, _, _, _ => none
  | k + 1, x0, x1, x5, x7, x9, x11, x65 => if x65 = true then (some false) else (if (Go.bits .xor .u16 x5 x7) = x9 then ((gf16_Mul.f k x5 x5).bind fun t137 => (if (Go.bits .xor .u16 t137 x5) = x11 then ((gf16_Index.f x5).bind fun t138 => (if t138 = x0 then ((gf16_Index.f x9).bind fun t139 => (some (t139 == (Go.bits .xor .i64 x0 x1)))) else (some false))) else (some false))) else (some false))
end
def culletlaw03_Gf16Cantor.f (k : Nat) (a0 : Int) (a1 : Int) : Option (Bool) := (culletlaw03_indexed.f k (IntKind.u16.wrap (a1)) a0).bind fun t127 => (if t127 = true then ((culletlaw03_indexed.f k (IntKind.u16.wrap (a0)) a1).bind fun t128 => (culletlaw03_Gf16Cantor.j0 k a0 a1 (!t128))) else (culletlaw03_Gf16Cantor.j0 k a0 a1 true))
theorem culletlaw03_Gf16Cantor.mono_l : ∀ k, (∀ y0 y1 y2, LeO (culletlaw03_Gf16Cantor.j0 k y0 y1 y2) (culletlaw03_Gf16Cantor.j0 (k + 1) y0 y1 y2)) ∧ (∀ y0 y1 y2 y3 y4 y5 y6, LeO (culletlaw03_Gf16Cantor.j1 k y0 y1 y2 y3 y4 y5 y6) (culletlaw03_Gf16Cantor.j1 (k + 1) y0 y1 y2 y3 y4 y5 y6))
  | 0 => ⟨fun _ _ _ r h => by simp [culletlaw03_Gf16Cantor.j0] at h, fun _ _ _ _ _ _ _ r h => by simp [culletlaw03_Gf16Cantor.j1] at h⟩
  | k + 1 => by
    obtain ⟨ih0, ih1⟩ := culletlaw03_Gf16Cantor.mono_l k
    refine ⟨?_, ?_⟩
    · intro y0 y1 y2
      unfold culletlaw03_Gf16Cantor.j0
      repeat' first
      | (with_reducible exact ih0 _ _ _)
      | (with_reducible exact ih1 _ _ _ _ _ _ _)
      | (with_reducible exact culletlaw03_indexed.mono _ _ _)
      | (with_reducible exact gf16_Mul.mono _ _ _)
      | (with_reducible exact LeO.refl _)
      | (with_reducible exact LeO.none _)
      | (with_reducible refine LeO.ite ?_ ?_)
      | (with_reducible refine LeO.bind ?_ (fun _ => ?_))
      | exact ih0 _ _ _
      | exact ih1 _ _ _ _ _ _ _
      | exact culletlaw03_indexed.mono _ _ _
      | exact gf16_Mul.mono _ _ _
      | exact LeO.none _
      | refine LeO.ite ?_ ?_
      | refine LeO.bind ?_ (fun _ => ?_)
    · intro y0 y1 y2 y3 y4 y5 y6
      unfold culletlaw03_Gf16Cantor.j1
      repeat' first
      | (with_reducible exact ih0 _ _ _)
      | (with_reducible exact ih1 _ _ _ _ _ _ _)
      | (with_reducible exact culletlaw03_indexed.mono _ _ _)
      | (with_reducible exact gf16_Mul.mono _ _ _)
      | (with_reducible exact LeO.refl _)
      | (with_reducible exact LeO.none _)
      | (with_reducible refine LeO.ite ?_ ?_)
      | (with_reducible refine LeO.bind ?_ (fun _ => ?_))
      | exact ih0 _ _ _
      | exact ih1 _ _ _ _ _ _ _
      | exact culletlaw03_indexed.mono _ _ _
      | exact gf16_Mul.mono _ _ _
      | exact LeO.none _
      | refine LeO.ite ?_ ?_
      | refine LeO.bind ?_ (fun _ => ?_)
theorem culletlaw03_Gf16Cantor.mono : ∀ a0 a1 k, LeO (culletlaw03_Gf16Cantor.f k a0 a1) (culletlaw03_Gf16Cantor.f (k + 1) a0 a1) := by
  intro a0 a1 k
  obtain ⟨ih0, ih1⟩ := culletlaw03_Gf16Cantor.mono_l k
  unfold culletlaw03_Gf16Cantor.f
  repeat' first
      | (with_reducible exact ih0 _ _ _)
      | (with_reducible exact ih1 _ _ _ _ _ _ _)
      | (with_reducible exact culletlaw03_indexed.mono _ _ _)
      | (with_reducible exact gf16_Mul.mono _ _ _)
      | (with_reducible exact LeO.refl _)
      | (with_reducible exact LeO.none _)
      | (with_reducible refine LeO.ite ?_ ?_)
      | (with_reducible refine LeO.bind ?_ (fun _ => ?_))
      | exact ih0 _ _ _
      | exact ih1 _ _ _ _ _ _ _
      | exact culletlaw03_indexed.mono _ _ _
      | exact gf16_Mul.mono _ _ _
      | exact LeO.none _
      | refine LeO.ite ?_ ?_
      | refine LeO.bind ?_ (fun _ => ?_)
set_option maxHeartbeats 8000000 in
set_option maxRecDepth 100000 in
theorem culletlaw03_Gf16Cantor.calls (k : Nat) (a0 : Int) (a1 : Int) (r : Bool) (w : World) (h : culletlaw03_Gf16Cantor.f k a0 a1 = some r) :
    Calls Try.prog 5 #[.int .i64 a0, .int .i64 a1] w fun e w' => e = .returned (.bool r) ∧ Below w.heap.size w w' := by
  have HB := Aside0.mk (Below.refl w.heap.size w)
  have H : ((culletlaw03_indexed.f k (IntKind.u16.wrap (a1)) a0).bind fun t127 => (if t127 = true then ((culletlaw03_indexed.f k (IntKind.u16.wrap (a0)) a1).bind fun t128 => (culletlaw03_Gf16Cantor.j0 k a0 a1 (!t128))) else (culletlaw03_Gf16Cantor.j0 k a0 a1 true))) = some r := h
  clear h
  have HC3 := Aside0.mk H
  clear H
  go_enter Try.func5, Try.ntmps5
  go_upto_region 1 with (fail)
  go_cut [24] (fun v24 wc => ∃ (kq : Nat) (x24_2 : Bool), v24 = .bool x24_2 ∧ Aside0 (culletlaw03_Gf16Cantor.j0 kq a0 a1 x24_2 = some r) ∧ Aside0 (kq ≤ k) ∧ Aside0 (Below w.heap.size w wc))
  case first =>
    have H := HC3.out
    clear HC3
    replace H := Option.bind_eq_some_iff.mp H
    obtain ⟨t127, A40, H⟩ := H
    replace H : (if t127 = true then ((culletlaw03_indexed.f k (IntKind.u16.wrap (a0)) a1).bind fun t128 => (culletlaw03_Gf16Cantor.j0 k a0 a1 (!t128))) else (culletlaw03_Gf16Cantor.j0 k a0 a1 true)) = some r := H
    have A4 := Aside0.mk A40
    clear A40
    by_cases c5 : t127 = true
    · subst c5
      have H1 : ((culletlaw03_indexed.f k (IntKind.u16.wrap (a0)) a1).bind fun t128 => (culletlaw03_Gf16Cantor.j0 k a0 a1 (!t128))) = some r := by rw [if_pos rfl] at H; exact H
      clear H
      have H := H1
      clear H1
      replace H := Option.bind_eq_some_iff.mp H
      obtain ⟨t128, A60, H⟩ := H
      replace H : (culletlaw03_Gf16Cantor.j0 k a0 a1 (!t128)) = some r := H
      have A6 := Aside0.mk A60
      clear A60
      have H' := Aside0.mk H
      clear H
      go_wp2_with (first | ((with_reducible refine gate_callee (f := 21) rfl ?_); refine goesL_ (some 16) rfl rfl Try.func21 (by kernel_rfl) rfl #[.int .u16 (IntKind.u16.wrap (a1)), .int .i64 a0] rfl (by (try simp only [List.map_toArray, List.map_cons, List.map_nil]); first | done | rfl | (simp only [List.length_drop, List.length_take]; rfl)) ?_; (with_reducible refine (culletlaw03_indexed.calls k (IntKind.u16.wrap (a1)) a0 true _ A4.out).mono ?_); rintro e w7 ⟨rfl, hb⟩; refine ⟨_, rfl, ?_⟩; have n0_ := Aside0.mk (below_step (by repeat (first | (with_reducible first | exact HB.out | apply below_alloc | apply pw_below_drewN | apply below_drew1) | exact HB.out)) hb); clear HB; have HB := n0_; clear n0_; (try clear hb); (try clear hb2); (try clear hk); (try clear hi)) | (go_at_call 21; (with_reducible refine (culletlaw03_indexed.calls k (IntKind.u16.wrap (a0)) a1 t128 _ A6.out).mono ?_); rintro e w8 ⟨rfl, hb⟩; have n0_ := Aside0.mk (below_step (by repeat (first | (with_reducible first | exact HB.out | apply below_alloc | apply pw_below_drewN | apply below_drew1) | exact HB.out)) hb); clear HB; have HB := n0_; clear n0_; (try clear hb); (try clear hb2); (try clear hk); (try clear hi)))
      go_meet
      case rel => exact ⟨_, (!t128), (by first | rfl | (simp; done) | (simp [*]; done)), H', ⟨by first | omega | exact Nat.le_refl _⟩, ⟨by repeat (first | (with_reducible first | exact HB.out | apply below_alloc | apply pw_below_drewN | apply below_drew1) | exact HB.out)⟩⟩
    · replace c5 := Bool.eq_false_iff.mpr c5
      subst c5
      have H1 : (culletlaw03_Gf16Cantor.j0 k a0 a1 true) = some r := by rw [if_neg (show ¬ (false = true) by decide)] at H; exact H
      clear H
      have H := H1
      clear H1
      have H' := Aside0.mk H
      clear H
      go_wp2_with (first | ((with_reducible refine gate_callee (f := 21) rfl ?_); refine goesL_ (some 16) rfl rfl Try.func21 (by kernel_rfl) rfl #[.int .u16 (IntKind.u16.wrap (a1)), .int .i64 a0] rfl (by (try simp only [List.map_toArray, List.map_cons, List.map_nil]); first | done | rfl | (simp only [List.length_drop, List.length_take]; rfl)) ?_; (with_reducible refine (culletlaw03_indexed.calls k (IntKind.u16.wrap (a1)) a0 false _ A4.out).mono ?_); rintro e w9 ⟨rfl, hb⟩; refine ⟨_, rfl, ?_⟩; have n0_ := Aside0.mk (below_step (by repeat (first | (with_reducible first | exact HB.out | apply below_alloc | apply pw_below_drewN | apply below_drew1) | exact HB.out)) hb); clear HB; have HB := n0_; clear n0_; (try clear hb); (try clear hb2); (try clear hk); (try clear hi)))
      go_meet
      case rel => exact ⟨_, (true), (by first | rfl | (simp; done) | (simp [*]; done)), H', ⟨by first | omega | exact Nat.le_refl _⟩, ⟨by repeat (first | (with_reducible first | exact HB.out | apply below_alloc | apply pw_below_drewN | apply below_drew1) | exact HB.out)⟩⟩
  case rest =>
    clear HC3
    try clear c2
    try clear p2
    try clear c5
    obtain ⟨kq, x24_2, rfl, HA, HJ2, HB⟩ := hcut
    cases kq with
    | zero => exact absurd HA.out (by simp [culletlaw03_Gf16Cantor.j0])
    | succ kj2 =>
      have H := HA.out
      clear HA
      simp only [culletlaw03_Gf16Cantor.j0] at H
      by_cases c10 : x24_2 = true
      · subst c10
        have H1 : (some false) = some r := by rw [if_pos rfl] at H; exact H
        clear H
        have H := H1
        clear H1
        obtain rfl := Option.some.inj H
        go_wp2
        go_ret
        exact ⟨by first | rfl | (simp [errW_none, errW_some] <;> rfl) | (simp [*, errW_none, errW_some] <;> rfl), by repeat (first | (with_reducible first | exact HB.out | apply below_alloc | apply pw_below_drewN | apply below_drew1) | exact HB.out)⟩
      · replace c10 := Bool.eq_false_iff.mpr c10
        subst c10
        have H1 : ((gf16_Element.f (Go.bits .and .i64 a0 65535)).bind fun bt129 => ((gf16_Element.f (Go.bits .and .i64 a1 65535)).bind fun bt131 => ((gf16_Element.f (Go.bits .xor .i64 (Go.bits .and .i64 a0 65535) (Go.bits .and .i64 a1 65535))).bind fun bt133 => ((gf16_Element.f ((Go.bits .and .i64 a0 65535) / 2)).bind fun bt135 => (if bt129.2 = 0 then (if bt131.2 = 0 then (if bt133.2 = 0 then (culletlaw03_Gf16Cantor.j1 kj2 (Go.bits .and .i64 a0 65535) (Go.bits .and .i64 a1 65535) bt129.1 bt131.1 bt133.1 bt135.1 (bt135.2 != 0)) else (culletlaw03_Gf16Cantor.j1 kj2 (Go.bits .and .i64 a0 65535) (Go.bits .and .i64 a1 65535) bt129.1 bt131.1 bt133.1 bt135.1 true)) else (culletlaw03_Gf16Cantor.j1 kj2 (Go.bits .and .i64 a0 65535) (Go.bits .and .i64 a1 65535) bt129.1 bt131.1 bt133.1 bt135.1 true)) else (culletlaw03_Gf16Cantor.j1 kj2 (Go.bits .and .i64 a0 65535) (Go.bits .and .i64 a1 65535) bt129.1 bt131.1 bt133.1 bt135.1 true)))))) = some r := by rw [if_neg (show ¬ (false = true) by decide)] at H; exact H
        clear H
        have H := H1
        clear H1
        replace H := Option.bind_eq_some_iff.mp H
        obtain ⟨⟨t129, t130⟩, A110, H⟩ := H
        replace H : ((gf16_Element.f (Go.bits .and .i64 a1 65535)).bind fun bt131 => ((gf16_Element.f (Go.bits .xor .i64 (Go.bits .and .i64 a0 65535) (Go.bits .and .i64 a1 65535))).bind fun bt133 => ((gf16_Element.f ((Go.bits .and .i64 a0 65535) / 2)).bind fun bt135 => (if t130 = 0 then (if bt131.2 = 0 then (if bt133.2 = 0 then (culletlaw03_Gf16Cantor.j1 kj2 (Go.bits .and .i64 a0 65535) (Go.bits .and .i64 a1 65535) t129 bt131.1 bt133.1 bt135.1 (bt135.2 != 0)) else (culletlaw03_Gf16Cantor.j1 kj2 (Go.bits .and .i64 a0 65535) (Go.bits .and .i64 a1 65535) t129 bt131.1 bt133.1 bt135.1 true)) else (culletlaw03_Gf16Cantor.j1 kj2 (Go.bits .and .i64 a0 65535) (Go.bits .and .i64 a1 65535) t129 bt131.1 bt133.1 bt135.1 true)) else (culletlaw03_Gf16Cantor.j1 kj2 (Go.bits .and .i64 a0 65535) (Go.bits .and .i64 a1 65535) t129 bt131.1 bt133.1 bt135.1 true))))) = some r := H
        have A11 := Aside0.mk A110
        clear A110
        replace H := Option.bind_eq_some_iff.mp H
        obtain ⟨⟨t131, t132⟩, A120, H⟩ := H
        replace H : ((gf16_Element.f (Go.bits .xor .i64 (Go.bits .and .i64 a0 65535) (Go.bits .and .i64 a1 65535))).bind fun bt133 => ((gf16_Element.f ((Go.bits .and .i64 a0 65535) / 2)).bind fun bt135 => (if t130 = 0 then (if t132 = 0 then (if bt133.2 = 0 then (culletlaw03_Gf16Cantor.j1 kj2 (Go.bits .and .i64 a0 65535) (Go.bits .and .i64 a1 65535) t129 t131 bt133.1 bt135.1 (bt135.2 != 0)) else (culletlaw03_Gf16Cantor.j1 kj2 (Go.bits .and .i64 a0 65535) (Go.bits .and .i64 a1 65535) t129 t131 bt133.1 bt135.1 true)) else (culletlaw03_Gf16Cantor.j1 kj2 (Go.bits .and .i64 a0 65535) (Go.bits .and .i64 a1 65535) t129 t131 bt133.1 bt135.1 true)) else (culletlaw03_Gf16Cantor.j1 kj2 (Go.bits .and .i64 a0 65535) (Go.bits .and .i64 a1 65535) t129 t131 bt133.1 bt135.1 true)))) = some r := H
        have A12 := Aside0.mk A120
        clear A120
        replace H := Option.bind_eq_some_iff.mp H
        obtain ⟨⟨t133, t134⟩, A130, H⟩ := H
        replace H : ((gf16_Element.f ((Go.bits .and .i64 a0 65535) / 2)).bind fun bt135 => (if t130 = 0 then (if t132 = 0 then (if t134 = 0 then (culletlaw03_Gf16Cantor.j1 kj2 (Go.bits .and .i64 a0 65535) (Go.bits .and .i64 a1 65535) t129 t131 t133 bt135.1 (bt135.2 != 0)) else (culletlaw03_Gf16Cantor.j1 kj2 (Go.bits .and .i64 a0 65535) (Go.bits .and .i64 a1 65535) t129 t131 t133 bt135.1 true)) else (culletlaw03_Gf16Cantor.j1 kj2 (Go.bits .and .i64 a0 65535) (Go.bits .and .i64 a1 65535) t129 t131 t133 bt135.1 true)) else (culletlaw03_Gf16Cantor.j1 kj2 (Go.bits .and .i64 a0 65535) (Go.bits .and .i64 a1 65535) t129 t131 t133 bt135.1 true))) = some r := H
        have A13 := Aside0.mk A130
        clear A130
        replace H := Option.bind_eq_some_iff.mp H
        obtain ⟨⟨t135, t136⟩, A140, H⟩ := H
        replace H : (if t130 = 0 then (if t132 = 0 then (if t134 = 0 then (culletlaw03_Gf16Cantor.j1 kj2 (Go.bits .and .i64 a0 65535) (Go.bits .and .i64 a1 65535) t129 t131 t133 t135 (t136 != 0)) else (culletlaw03_Gf16Cantor.j1 kj2 (Go.bits .and .i64 a0 65535) (Go.bits .and .i64 a1 65535) t129 t131 t133 t135 true)) else (culletlaw03_Gf16Cantor.j1 kj2 (Go.bits .and .i64 a0 65535) (Go.bits .and .i64 a1 65535) t129 t131 t133 t135 true)) else (culletlaw03_Gf16Cantor.j1 kj2 (Go.bits .and .i64 a0 65535) (Go.bits .and .i64 a1 65535) t129 t131 t133 t135 true)) = some r := H
        have A14 := Aside0.mk A140
        clear A140
        have HC15 := Aside0.mk H
        clear H
        go_upto_region 9 with (first | ((with_reducible refine gate_callee (f := 22) rfl ?_); refine goesL_ (some 31) rfl rfl Try.func22 (by kernel_rfl) rfl #[.int .i64 (Go.bits .and .i64 a0 65535)] rfl (by (try simp only [List.map_toArray, List.map_cons, List.map_nil]); first | done | rfl | (simp only [List.length_drop, List.length_take]; rfl)) ?_; (with_reducible refine (gf16_Element.calls (Go.bits .and .i64 a0 65535) t129 t130 _ A11.out).mono ?_); rintro e w16 ⟨rfl, hb⟩; refine ⟨_, rfl, ?_⟩; have n0_ := Aside0.mk (below_step (by repeat (first | (with_reducible first | exact HB.out | apply below_alloc | apply pw_below_drewN | apply below_drew1) | exact HB.out)) hb); clear HB; have HB := n0_; clear n0_; (try clear hb); (try clear hb2); (try clear hk); (try clear hi)) | ((with_reducible refine gate_callee (f := 22) rfl ?_); refine goesL_ (some 36) rfl rfl Try.func22 (by kernel_rfl) rfl #[.int .i64 (Go.bits .and .i64 a1 65535)] rfl (by (try simp only [List.map_toArray, List.map_cons, List.map_nil]); first | done | rfl | (simp only [List.length_drop, List.length_take]; rfl)) ?_; (with_reducible refine (gf16_Element.calls (Go.bits .and .i64 a1 65535) t131 t132 _ A12.out).mono ?_); rintro e w17 ⟨rfl, hb⟩; refine ⟨_, rfl, ?_⟩; have n0_ := Aside0.mk (below_step (by repeat (first | (with_reducible first | exact HB.out | apply below_alloc | apply pw_below_drewN | apply below_drew1) | exact HB.out)) hb); clear HB; have HB := n0_; clear n0_; (try clear hb); (try clear hb2); (try clear hk); (try clear hi)) | ((with_reducible refine gate_callee (f := 22) rfl ?_); refine goesL_ (some 43) rfl rfl Try.func22 (by kernel_rfl) rfl #[.int .i64 (Go.bits .xor .i64 (Go.bits .and .i64 a0 65535) (Go.bits .and .i64 a1 65535))] rfl (by (try simp only [List.map_toArray, List.map_cons, List.map_nil]); first | done | rfl | (simp only [List.length_drop, List.length_take]; rfl)) ?_; (with_reducible refine (gf16_Element.calls (Go.bits .xor .i64 (Go.bits .and .i64 a0 65535) (Go.bits .and .i64 a1 65535)) t133 t134 _ A13.out).mono ?_); rintro e w18 ⟨rfl, hb⟩; refine ⟨_, rfl, ?_⟩; have n0_ := Aside0.mk (below_step (by repeat (first | (with_reducible first | exact HB.out | apply below_alloc | apply pw_below_drewN | apply below_drew1) | exact HB.out)) hb); clear HB; have HB := n0_; clear n0_; (try clear hb); (try clear hb2); (try clear hk); (try clear hi)) | ((with_reducible refine gate_callee (f := 22) rfl ?_); refine goesL_ (some 49) rfl rfl Try.func22 (by kernel_rfl) rfl #[.int .i64 ((Go.bits .and .i64 a0 65535) / 2)] rfl (by (try simp only [List.map_toArray, List.map_cons, List.map_nil]); first | done | rfl | (simp only [List.length_drop, List.length_take]; rfl)) ?_; (with_reducible refine (gf16_Element.calls ((Go.bits .and .i64 a0 65535) / 2) t135 t136 _ A14.out).mono ?_); rintro e w19 ⟨rfl, hb⟩; refine ⟨_, rfl, ?_⟩; have n0_ := Aside0.mk (below_step (by repeat (first | (with_reducible first | exact HB.out | apply below_alloc | apply pw_below_drewN | apply below_drew1) | exact HB.out)) hb); clear HB; have HB := n0_; clear n0_; (try clear hb); (try clear hb2); (try clear hk); (try clear hi)))
        (try simp only [Act.put, List.setIfInBounds_toArray, List.set_cons_zero, List.set_cons_succ])
        go_cut [65] (fun v65 wc => ∃ (kq : Nat) (x65_14 : Bool), v65 = .bool x65_14 ∧ Aside0 (culletlaw03_Gf16Cantor.j1 kq (Go.bits .and .i64 a0 65535) (Go.bits .and .i64 a1 65535) t129 t131 t133 t135 x65_14 = some r) ∧ Aside0 (kq ≤ kj2) ∧ Aside0 (Below w.heap.size w wc))
        case first =>
          have H := HC15.out
          clear HC15
          by_cases c20 : t130 = 0
          · rw [if_pos c20] at H
            have c20b0 : (t130 == 0) = true := beq_iff_eq.mpr c20
            have c20b1 : (t130 != 0) = false := bne_eq_false_iff_eq.mpr c20
            clear c20
            (first | rw [c20b0] | (simp only [i64_w, i32_w]; rw [c20b0]) | skip)
            by_cases c21 : t132 = 0
            · rw [if_pos c21] at H
              have c21b0 : (t132 == 0) = true := beq_iff_eq.mpr c21
              have c21b1 : (t132 != 0) = false := bne_eq_false_iff_eq.mpr c21
              clear c21
              by_cases c22 : t134 = 0
              · rw [if_pos c22] at H
                have c22b0 : (t134 == 0) = true := beq_iff_eq.mpr c22
                have c22b1 : (t134 != 0) = false := bne_eq_false_iff_eq.mpr c22
                clear c22
                have H' := Aside0.mk H
                clear H
                go_wp2
                go_meet
                case rel => exact ⟨_, ((t136 != 0)), (by first | rfl | (simp; done) | (simp [*]; done)), H', ⟨by have := HJ2.out; first | omega | exact Nat.le_refl _⟩, ⟨by repeat (first | (with_reducible first | exact HB.out | apply below_alloc | apply pw_below_drewN | apply below_drew1) | exact HB.out)⟩⟩
              · rw [if_neg c22] at H
                have c22b0 : (t134 == 0) = false := beq_eq_false_iff_ne.mpr c22
                have c22b1 : (t134 != 0) = true := bne_iff_ne.mpr c22
                have H' := Aside0.mk H
                clear H
                go_wp2
                go_meet
                case rel => exact ⟨_, (true), (by first | rfl | (simp; done) | (simp [*]; done)), H', ⟨by have := HJ2.out; first | omega | exact Nat.le_refl _⟩, ⟨by repeat (first | (with_reducible first | exact HB.out | apply below_alloc | apply pw_below_drewN | apply below_drew1) | exact HB.out)⟩⟩
            · rw [if_neg c21] at H
              have c21b0 : (t132 == 0) = false := beq_eq_false_iff_ne.mpr c21
              have c21b1 : (t132 != 0) = true := bne_iff_ne.mpr c21
              have H' := Aside0.mk H
              clear H
              go_wp2
              go_meet
              case rel => exact ⟨_, (true), (by first | rfl | (simp; done) | (simp [*]; done)), H', ⟨by have := HJ2.out; first | omega | exact Nat.le_refl _⟩, ⟨by repeat (first | (with_reducible first | exact HB.out | apply below_alloc | apply pw_below_drewN | apply below_drew1) | exact HB.out)⟩⟩
          · rw [if_neg c20] at H
            have c20b0 : (t130 == 0) = false := beq_eq_false_iff_ne.mpr c20
            have c20b1 : (t130 != 0) = true := bne_iff_ne.mpr c20
            (first | rw [c20b0] | (simp only [i64_w, i32_w]; rw [c20b0]) | skip)
            have H' := Aside0.mk H
            clear H
            go_wp2
            go_meet
            case rel => exact ⟨_, (true), (by first | rfl | (simp; done) | (simp [*]; done)), H', ⟨by have := HJ2.out; first | omega | exact Nat.le_refl _⟩, ⟨by repeat (first | (with_reducible first | exact HB.out | apply below_alloc | apply pw_below_drewN | apply below_drew1) | exact HB.out)⟩⟩
        case rest =>
          clear HC15
          try clear c1
          try clear c2
          try clear p2
          try clear c5
          try clear c10
          try clear c20
          try clear c20b0
          try clear c20b1
          try clear c21
          try clear c21b0
          try clear c21b1
          try clear c22
          try clear c22b0
          try clear c22b1
          try clear p2
          obtain ⟨kq, x65_14, rfl, HA, HJ14, HB⟩ := hcut
          cases kq with
          | zero => exact absurd HA.out (by simp [culletlaw03_Gf16Cantor.j1])
          | succ kj14 =>
            have H := HA.out
            clear HA
            simp only [culletlaw03_Gf16Cantor.j1] at H
            by_cases c23 : x65_14 = true
            · subst c23
              have H1 : (some false) = some r := by rw [if_pos rfl] at H; exact H
              clear H
              have H := H1
              clear H1
              obtain rfl := Option.some.inj H
              go_wp2
              go_ret
              exact ⟨by first | rfl | (simp [errW_none, errW_some] <;> rfl) | (simp [*, errW_none, errW_some] <;> rfl), by repeat (first | (with_reducible first | exact HB.out | apply below_alloc | apply pw_below_drewN | apply below_drew1) | exact HB.out)⟩
            · replace c23 := Bool.eq_false_iff.mpr c23
              subst c23
              have H1 : (if (Go.bits .xor .u16 t129 t131) = t133 then ((gf16_Mul.f kj14 t129 t129).bind fun t137 => (if (Go.bits .xor .u16 t137 t129) = t135 then ((gf16_Index.f t129).bind fun t138 => (if t138 = (Go.bits .and .i64 a0 65535) then ((gf16_Index.f t133).bind fun t139 => (some (t139 == (Go.bits .xor .i64 (Go.bits .and .i64 a0 65535) (Go.bits .and .i64 a1 65535))))) else (some false))) else (some false))) else (some false)) = some r := by rw [if_neg (show ¬ (false = true) by decide)] at H; exact H
              clear H
              have H := H1
              clear H1
              by_cases c24 : (Go.bits .xor .u16 t129 t131) = t133
              · rw [if_pos c24] at H
                have c24b0 : ((Go.bits .xor .u16 t129 t131) == t133) = true := beq_iff_eq.mpr c24
                have c24b1 : ((Go.bits .xor .u16 t129 t131) != t133) = false := bne_eq_false_iff_eq.mpr c24
                clear c24
                replace H := Option.bind_eq_some_iff.mp H
                obtain ⟨t137, A250, H⟩ := H
                replace H : (if (Go.bits .xor .u16 t137 t129) = t135 then ((gf16_Index.f t129).bind fun t138 => (if t138 = (Go.bits .and .i64 a0 65535) then ((gf16_Index.f t133).bind fun t139 => (some (t139 == (Go.bits .xor .i64 (Go.bits .and .i64 a0 65535) (Go.bits .and .i64 a1 65535))))) else (some false))) else (some false)) = some r := H
                have A25 := Aside0.mk A250
                clear A250
                by_cases c26 : (Go.bits .xor .u16 t137 t129) = t135
                · rw [if_pos c26] at H
                  have c26b0 : ((Go.bits .xor .u16 t137 t129) == t135) = true := beq_iff_eq.mpr c26
                  have c26b1 : ((Go.bits .xor .u16 t137 t129) != t135) = false := bne_eq_false_iff_eq.mpr c26
                  clear c26
                  replace H := Option.bind_eq_some_iff.mp H
                  obtain ⟨t138, A270, H⟩ := H
                  replace H : (if t138 = (Go.bits .and .i64 a0 65535) then ((gf16_Index.f t133).bind fun t139 => (some (t139 == (Go.bits .xor .i64 (Go.bits .and .i64 a0 65535) (Go.bits .and .i64 a1 65535))))) else (some false)) = some r := H
                  have A27 := Aside0.mk A270
                  clear A270
                  by_cases c28 : t138 = (Go.bits .and .i64 a0 65535)
                  · rw [if_pos c28] at H
                    have c28b0 : (t138 == (Go.bits .and .i64 a0 65535)) = true := beq_iff_eq.mpr c28
                    have c28b1 : (t138 != (Go.bits .and .i64 a0 65535)) = false := bne_eq_false_iff_eq.mpr c28
                    clear c28
                    replace H := Option.bind_eq_some_iff.mp H
                    obtain ⟨t139, A290, H⟩ := H
                    replace H : (some (t139 == (Go.bits .xor .i64 (Go.bits .and .i64 a0 65535) (Go.bits .and .i64 a1 65535)))) = some r := H
                    have A29 := Aside0.mk A290
                    clear A290
                    obtain rfl := Option.some.inj H
                    go_wp2_with (first | (go_at_call 18; (with_reducible refine (gf16_Mul.calls kj14 t129 t129 t137 _ A25.out).mono ?_); rintro e w' ⟨rfl, ⟨nd, rfl⟩⟩) | (go_at_call 23; (with_reducible refine (gf16_Index.calls t129 t138 _ A27.out).mono ?_); rintro e w30 ⟨rfl, hb⟩; have n0_ := Aside0.mk (below_step (by repeat (first | (with_reducible first | exact HB.out | apply below_alloc | apply pw_below_drewN | apply below_drew1) | exact HB.out)) hb); clear HB; have HB := n0_; clear n0_; (try clear hb); (try clear hb2); (try clear hk); (try clear hi)) | (go_at_call 23; (with_reducible refine (gf16_Index.calls t133 t139 _ A29.out).mono ?_); rintro e w31 ⟨rfl, hb⟩; have n0_ := Aside0.mk (below_step (by repeat (first | (with_reducible first | exact HB.out | apply below_alloc | apply pw_below_drewN | apply below_drew1) | exact HB.out)) hb); clear HB; have HB := n0_; clear n0_; (try clear hb); (try clear hb2); (try clear hk); (try clear hi)))
                    go_ret
                    exact ⟨by first | rfl | (simp [errW_none, errW_some] <;> rfl) | (simp [*, errW_none, errW_some] <;> rfl), by repeat (first | (with_reducible first | exact HB.out | apply below_alloc | apply pw_below_drewN | apply below_drew1) | exact HB.out)⟩
                  · rw [if_neg c28] at H
                    have c28b0 : (t138 == (Go.bits .and .i64 a0 65535)) = false := beq_eq_false_iff_ne.mpr c28
                    have c28b1 : (t138 != (Go.bits .and .i64 a0 65535)) = true := bne_iff_ne.mpr c28
                    obtain rfl := Option.some.inj H
                    go_wp2_with (first | (go_at_call 18; (with_reducible refine (gf16_Mul.calls kj14 t129 t129 t137 _ A25.out).mono ?_); rintro e w' ⟨rfl, ⟨nd, rfl⟩⟩) | (go_at_call 23; (with_reducible refine (gf16_Index.calls t129 t138 _ A27.out).mono ?_); rintro e w32 ⟨rfl, hb⟩; have n0_ := Aside0.mk (below_step (by repeat (first | (with_reducible first | exact HB.out | apply below_alloc | apply pw_below_drewN | apply below_drew1) | exact HB.out)) hb); clear HB; have HB := n0_; clear n0_; (try clear hb); (try clear hb2); (try clear hk); (try clear hi)))
                    go_ret
                    exact ⟨by first | rfl | (simp [errW_none, errW_some] <;> rfl) | (simp [*, errW_none, errW_some] <;> rfl), by repeat (first | (with_reducible first | exact HB.out | apply below_alloc | apply pw_below_drewN | apply below_drew1) | exact HB.out)⟩
                · rw [if_neg c26] at H
                  have c26b0 : ((Go.bits .xor .u16 t137 t129) == t135) = false := beq_eq_false_iff_ne.mpr c26
                  have c26b1 : ((Go.bits .xor .u16 t137 t129) != t135) = true := bne_iff_ne.mpr c26
                  obtain rfl := Option.some.inj H
                  go_wp2_with (first | (go_at_call 18; (with_reducible refine (gf16_Mul.calls kj14 t129 t129 t137 _ A25.out).mono ?_); rintro e w' ⟨rfl, ⟨nd, rfl⟩⟩))
                  go_ret
                  exact ⟨by first | rfl | (simp [errW_none, errW_some] <;> rfl) | (simp [*, errW_none, errW_some] <;> rfl), by repeat (first | (with_reducible first | exact HB.out | apply below_alloc | apply pw_below_drewN | apply below_drew1) | exact HB.out)⟩
              · rw [if_neg c24] at H
                have c24b0 : ((Go.bits .xor .u16 t129 t131) == t133) = false := beq_eq_false_iff_ne.mpr c24
                have c24b1 : ((Go.bits .xor .u16 t129 t131) != t133) = true := bne_iff_ne.mpr c24
                obtain rfl := Option.some.inj H
                go_wp2
                go_ret
                exact ⟨by first | rfl | (simp [errW_none, errW_some] <;> rfl) | (simp [*, errW_none, errW_some] <;> rfl), by repeat (first | (with_reducible first | exact HB.out | apply below_alloc | apply pw_below_drewN | apply below_drew1) | exact HB.out)⟩

/-- THE ONE PURE STATEMENT of culletlaw03_Gf16Cantor: yours. -/
def culletlaw03_Gf16Cantor.Pure : Prop := ∀ (a0 : Int) (a1 : Int), (Lit.int .i64 a0).wf = true → (Lit.int .i64 a1).wf = true → ∃ k, culletlaw03_Gf16Cantor.f k a0 a1 = some true
theorem culletlaw03_Gf16Cantor.walk (P : culletlaw03_Gf16Cantor.Pure) (a0 : Int) (a1 : Int) (w : World) (w0 : (Lit.int .i64 a0).wf = true) (w1 : (Lit.int .i64 a1).wf = true) :
    Calls Try.prog 5 #[.int .i64 a0, .int .i64 a1] w fun e w' => e = .returned (.bool true) ∧ Below w.heap.size w w' := by
  obtain ⟨k, h⟩ := P a0 a1 w0 w1
  refine (culletlaw03_Gf16Cantor.calls k a0 a1 true w h).mono ?_
  rintro e w' ⟨rfl, hd⟩
  exact ⟨rfl, hd⟩

end Go.Proofs.Ytedaifgbnojojaa.Q
