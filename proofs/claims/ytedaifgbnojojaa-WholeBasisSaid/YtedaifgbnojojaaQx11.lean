-- Printed for this claim by mp.py, a program of its prover, through the kit's print. Lean checks it.
import Derived.Test.YtedaifgbnojojaaQx0
import Derived.Test.YtedaifgbnojojaaQx1
import Derived.Test.YtedaifgbnojojaaQx2
import Derived.Test.YtedaifgbnojojaaQx6
namespace Go.Proofs.Ytedaifgbnojojaa.Q
open Go.RowKit Go.Proofs.YtedaifgbnojojaaW.PrintWords Go.Proofs.YtedaifgbnojojaaW.PrintLast Go.Proofs.YtedaifgbnojojaaW.PrintMore
attribute [local go_sem] max2_int min2_int max_two min_two max_three min_three max_four min_four   -- for this text's walks alone
set_option linter.unusedVariables false
set_option linter.unusedSimpArgs false

/-! ### culletlaw03_Gf16Subfields: function 8 -/
mutual
def culletlaw03_Gf16Subfields.j0 : Nat → Int → Int → Bool → Option (Bool)
  | 0, _, _, _ => none
  | k + 1, x0, x1, x18 => if x18 = true then (some false) else ((some (([2, 4, 16, 256] : List Int) : List Int)).bind fun y225 => (culletlaw03_Gf16Subfields.l0 k x0 x1 y225 (y225.length : Int) 0))
def culletlaw03_Gf16Subfields.l0 : Nat → Int → Int → List Int → Int → Int → Option (Bool)
  | 0, _, _, _, _, _ => none
  | k + 1, x0, x1, x19, x20, x21 => if x21 < x20 then (if 0 ≤ x21 then (if x21 < (x19.length : Int) then ((gf16_Element.f (Go.bits .and .i64 x0 (wrap64 ((rd x19 x21) - 1)))).bind fun bt229 => ((gf16_Element.f (Go.bits .and .i64 x1 (wrap64 ((rd x19 x21) - 1)))).bind fun bt231 => (if bt229.2 = 0 then (if bt231.2 = 0 then ((gf16_Mul.f k bt229.1 bt231.1).bind fun t233 => ((gf16_Index.f t233).bind fun t234 => (culletlaw03_Gf16Subfields.j2 k x0 x1 (rd x19 x21) bt229.1 x19 x20 x21 (decide (t234 ≥ (rd x19 x21)))))) else (culletlaw03_Gf16Subfields.j2 k x0 x1 (rd x19 x21) bt229.1 x19 x20 x21 true)) else (culletlaw03_Gf16Subfields.j2 k x0 x1 (rd x19 x21) bt229.1 x19 x20 x21 true)))) else (none)) else (none)) else (some true)
def culletlaw03_Gf16Subfields.j2 : Nat → Int → Int → Int → Int → List Int → Int → Int → Bool → Option (Bool)
  | 0, _, _, _, _, _, _, _, _ => none
  | k + 1, x0, x1, x6, x7, x19, x20, x21, x54 => if x54 = true then (some false) else ((gf16_Inv.f k x7).bind fun bt235 => (if x7 = 0 then (culletlaw03_Gf16Subfields.l0 k x0 x1 x19 x20 (wrap64 (x21 + 1))) else (if bt235.2 = 0 then ((gf16_Index.f bt235.1).bind fun t237 => (if t237 ≥ x6 then (some false) else (culletlaw03_Gf16Subfields.l0 k x0 x1 x19 x20 (wrap64 (x21 + 1))))) else (some false))))
end
def culletlaw03_Gf16Subfields.f (k : Nat) (a0 : Int) (a1 : Int) : Option (Bool) := (culletlaw03_fixed.f k).bind fun t223 => (if t223 = true then ((gf16_Index.f 44234).bind fun t224 => (culletlaw03_Gf16Subfields.j0 k a0 a1 (t224 != 2))) else (culletlaw03_Gf16Subfields.j0 k a0 a1 true))
theorem culletlaw03_Gf16Subfields.mono_l : ∀ k, (∀ y0 y1 y2, LeO (culletlaw03_Gf16Subfields.j0 k y0 y1 y2) (culletlaw03_Gf16Subfields.j0 (k + 1) y0 y1 y2)) ∧ (∀ y0 y1 y2 y3 y4, LeO (culletlaw03_Gf16Subfields.l0 k y0 y1 y2 y3 y4) (culletlaw03_Gf16Subfields.l0 (k + 1) y0 y1 y2 y3 y4)) ∧ (∀ y0 y1 y2 y3 y4 y5 y6 y7, LeO (culletlaw03_Gf16Subfields.j2 k y0 y1 y2 y3 y4 y5 y6 y7) (culletlaw03_Gf16Subfields.j2 (k + 1) y0 y1 y2 y3 y4 y5 y6 y7))
  | 0 => ⟨fun _ _ _ r h => by simp [culletlaw03_Gf16Subfields.j0] at h, fun _ _ _ _ _ r h => by simp [culletlaw03_Gf16Subfields.l0] at h, fun _ _ _ _ _ _ _ _ r h => by simp [culletlaw03_Gf16Subfields.j2] at h⟩
  | k + 1 => by
    obtain ⟨ih0, ih1, ih2⟩ := culletlaw03_Gf16Subfields.mono_l k
    refine ⟨?_, ?_, ?_⟩
    · intro y0 y1 y2
      unfold culletlaw03_Gf16Subfields.j0
      repeat' first
      | (with_reducible exact ih0 _ _ _)
      | (with_reducible exact ih1 _ _ _ _ _)
      | (with_reducible exact ih2 _ _ _ _ _ _ _ _)
      | (with_reducible exact culletlaw03_fixed.mono _)
      | (with_reducible exact gf16_Inv.mono _ _)
      | (with_reducible exact gf16_Mul.mono _ _ _)
      | (with_reducible exact LeO.refl _)
      | (with_reducible exact LeO.none _)
      | (with_reducible refine LeO.ite ?_ ?_)
      | (with_reducible refine LeO.bind ?_ (fun _ => ?_))
      | exact ih0 _ _ _
      | exact ih1 _ _ _ _ _
      | exact ih2 _ _ _ _ _ _ _ _
      | exact culletlaw03_fixed.mono _
      | exact gf16_Inv.mono _ _
      | exact gf16_Mul.mono _ _ _
      | exact LeO.none _
      | refine LeO.ite ?_ ?_
      | refine LeO.bind ?_ (fun _ => ?_)
    · intro y0 y1 y2 y3 y4
      unfold culletlaw03_Gf16Subfields.l0
      repeat' first
      | (with_reducible exact ih0 _ _ _)
      | (with_reducible exact ih1 _ _ _ _ _)
      | (with_reducible exact ih2 _ _ _ _ _ _ _ _)
      | (with_reducible exact culletlaw03_fixed.mono _)
      | (with_reducible exact gf16_Inv.mono _ _)
      | (with_reducible exact gf16_Mul.mono _ _ _)
      | (with_reducible exact LeO.refl _)
      | (with_reducible exact LeO.none _)
      | (with_reducible refine LeO.ite ?_ ?_)
      | (with_reducible refine LeO.bind ?_ (fun _ => ?_))
      | exact ih0 _ _ _
      | exact ih1 _ _ _ _ _
      | exact ih2 _ _ _ _ _ _ _ _
      | exact culletlaw03_fixed.mono _
      | exact gf16_Inv.mono _ _
      | exact gf16_Mul.mono _ _ _
      | exact LeO.none _
      | refine LeO.ite ?_ ?_
      | refine LeO.bind ?_ (fun _ => ?_)
    · intro y0 y1 y2 y3 y4 y5 y6 y7
      unfold culletlaw03_Gf16Subfields.j2
      repeat' first
      | (with_reducible exact ih0 _ _ _)
      | (with_reducible exact ih1 _ _ _ _ _)
      | (with_reducible exact ih2 _ _ _ _ _ _ _ _)
      | (with_reducible exact culletlaw03_fixed.mono _)
      | (with_reducible exact gf16_Inv.mono _ _)
      | (with_reducible exact gf16_Mul.mono _ _ _)
      | (with_reducible exact LeO.refl _)
      | (with_reducible exact LeO.none _)
      | (with_reducible refine LeO.ite ?_ ?_)
      | (with_reducible refine LeO.bind ?_ (fun _ => ?_))
      | exact ih0 _ _ _
      | exact ih1 _ _ _ _ _
      | exact ih2 _ _ _ _ _ _ _ _
      | exact culletlaw03_fixed.mono _
      | exact gf16_Inv.mono _ _
      | exact gf16_Mul.mono _ _ _
      | exact LeO.none _
      | refine LeO.ite ?_ ?_
      | refine LeO.bind ?_ (fun _ => ?_)
theorem culletlaw03_Gf16Subfields.mono : ∀ a0 a1 k, LeO (culletlaw03_Gf16Subfields.f k a0 a1) (culletlaw03_Gf16Subfields.f (k + 1) a0 a1) := by
  intro a0 a1 k
  obtain ⟨ih0, ih1, ih2⟩ := culletlaw03_Gf16Subfields.mono_l k
  unfold culletlaw03_Gf16Subfields.f
  repeat' first
      | (with_reducible exact ih0 _ _ _)
      | (with_reducible exact ih1 _ _ _ _ _)
      | (with_reducible exact ih2 _ _ _ _ _ _ _ _)
      | (with_reducible exact culletlaw03_fixed.mono _)
      | (with_reducible exact gf16_Inv.mono _ _)
      | (with_reducible exact gf16_Mul.mono _ _ _)
      | (with_reducible exact LeO.refl _)
      | (with_reducible exact LeO.none _)
      | (with_reducible refine LeO.ite ?_ ?_)
      | (with_reducible refine LeO.bind ?_ (fun _ => ?_))
      | exact ih0 _ _ _
      | exact ih1 _ _ _ _ _
      | exact ih2 _ _ _ _ _ _ _ _
      | exact culletlaw03_fixed.mono _
      | exact gf16_Inv.mono _ _
      | exact gf16_Mul.mono _ _ _
      | exact LeO.none _
      | refine LeO.ite ?_ ?_
      | refine LeO.bind ?_ (fun _ => ?_)
set_option maxHeartbeats 8000000 in
set_option maxRecDepth 100000 in
theorem culletlaw03_Gf16Subfields.calls (k : Nat) (a0 : Int) (a1 : Int) (r : Bool) (w : World) (h : culletlaw03_Gf16Subfields.f k a0 a1 = some r) :
    Calls Try.prog 8 #[.int .i64 a0, .int .i64 a1] w fun e w' => e = .returned (.bool r) ∧ Below w.heap.size w w' := by
  have HB := Aside0.mk (Below.refl w.heap.size w)
  have H : ((culletlaw03_fixed.f k).bind fun t223 => (if t223 = true then ((gf16_Index.f 44234).bind fun t224 => (culletlaw03_Gf16Subfields.j0 k a0 a1 (t224 != 2))) else (culletlaw03_Gf16Subfields.j0 k a0 a1 true))) = some r := h
  clear h
  have HC3 := Aside0.mk H
  clear H
  go_enter Try.func8, Try.ntmps8
  go_upto_region 1 with (fail)
  go_cut [18] (fun v18 wc => ∃ (kq : Nat) (x18_2 : Bool), v18 = .bool x18_2 ∧ Aside0 (culletlaw03_Gf16Subfields.j0 kq a0 a1 x18_2 = some r) ∧ Aside0 (kq ≤ k) ∧ Aside0 (Below w.heap.size w wc))
  case first =>
    have H := HC3.out
    clear HC3
    replace H := Option.bind_eq_some_iff.mp H
    obtain ⟨t223, A40, H⟩ := H
    replace H : (if t223 = true then ((gf16_Index.f 44234).bind fun t224 => (culletlaw03_Gf16Subfields.j0 k a0 a1 (t224 != 2))) else (culletlaw03_Gf16Subfields.j0 k a0 a1 true)) = some r := H
    have A4 := Aside0.mk A40
    clear A40
    by_cases c5 : t223 = true
    · subst c5
      have H1 : ((gf16_Index.f 44234).bind fun t224 => (culletlaw03_Gf16Subfields.j0 k a0 a1 (t224 != 2))) = some r := by rw [if_pos rfl] at H; exact H
      clear H
      have H := H1
      clear H1
      replace H := Option.bind_eq_some_iff.mp H
      obtain ⟨t224, A60, H⟩ := H
      replace H : (culletlaw03_Gf16Subfields.j0 k a0 a1 (t224 != 2)) = some r := H
      have A6 := Aside0.mk A60
      clear A60
      have H' := Aside0.mk H
      clear H
      go_wp2_with (first | ((with_reducible refine gate_callee (f := 17) rfl ?_); refine goesL_ (some 13) rfl rfl Try.func17 (by kernel_rfl) rfl #[] rfl (by (try simp only [List.map_toArray, List.map_cons, List.map_nil]); first | done | rfl | (simp only [List.length_drop, List.length_take]; rfl)) ?_; (with_reducible refine (culletlaw03_fixed.calls k  true _ A4.out).mono ?_); rintro e w' ⟨rfl, ⟨nd, rfl⟩⟩; refine ⟨_, rfl, ?_⟩) | (go_at_call 23; (with_reducible refine (gf16_Index.calls 44234 t224 _ A6.out).mono ?_); rintro e w7 ⟨rfl, hb⟩; have n0_ := Aside0.mk (below_step (by repeat (first | (with_reducible first | exact HB.out | apply below_alloc | apply pw_below_drewN | apply below_drew1) | exact HB.out)) hb); clear HB; have HB := n0_; clear n0_; (try clear hb); (try clear hb2); (try clear hk); (try clear hi)))
      go_meet
      case rel => exact ⟨_, ((t224 != 2)), (by first | rfl | (simp; done) | (simp [*]; done)), H', ⟨by first | omega | exact Nat.le_refl _⟩, ⟨by repeat (first | (with_reducible first | exact HB.out | apply below_alloc | apply pw_below_drewN | apply below_drew1) | exact HB.out)⟩⟩
    · replace c5 := Bool.eq_false_iff.mpr c5
      subst c5
      have H1 : (culletlaw03_Gf16Subfields.j0 k a0 a1 true) = some r := by rw [if_neg (show ¬ (false = true) by decide)] at H; exact H
      clear H
      have H := H1
      clear H1
      have H' := Aside0.mk H
      clear H
      go_wp2_with (first | ((with_reducible refine gate_callee (f := 17) rfl ?_); refine goesL_ (some 13) rfl rfl Try.func17 (by kernel_rfl) rfl #[] rfl (by (try simp only [List.map_toArray, List.map_cons, List.map_nil]); first | done | rfl | (simp only [List.length_drop, List.length_take]; rfl)) ?_; (with_reducible refine (culletlaw03_fixed.calls k  false _ A4.out).mono ?_); rintro e w' ⟨rfl, ⟨nd, rfl⟩⟩; refine ⟨_, rfl, ?_⟩))
      go_meet
      case rel => exact ⟨_, (true), (by first | rfl | (simp; done) | (simp [*]; done)), H', ⟨by first | omega | exact Nat.le_refl _⟩, ⟨by repeat (first | (with_reducible first | exact HB.out | apply below_alloc | apply pw_below_drewN | apply below_drew1) | exact HB.out)⟩⟩
  case rest =>
    clear HC3
    try clear c1
    try clear p2
    try clear c5
    obtain ⟨kq, x18_2, rfl, HA, HJ2, HB⟩ := hcut
    cases kq with
    | zero => exact absurd HA.out (by simp [culletlaw03_Gf16Subfields.j0])
    | succ kj2 =>
      have H := HA.out
      clear HA
      simp only [culletlaw03_Gf16Subfields.j0] at H
      by_cases c8 : x18_2 = true
      · subst c8
        have H1 : (some false) = some r := by rw [if_pos rfl] at H; exact H
        clear H
        have H := H1
        clear H1
        obtain rfl := Option.some.inj H
        go_wp2
        go_ret
        exact ⟨by first | rfl | (simp [errW_none, errW_some] <;> rfl) | (simp [*, errW_none, errW_some] <;> rfl), by repeat (first | (with_reducible first | exact HB.out | apply below_alloc | apply pw_below_drewN | apply below_drew1) | exact HB.out)⟩
      · replace c8 := Bool.eq_false_iff.mpr c8
        subst c8
        have H1 : ((some (([2, 4, 16, 256] : List Int) : List Int)).bind fun y225 => (culletlaw03_Gf16Subfields.l0 kj2 a0 a1 y225 (y225.length : Int) 0)) = some r := by rw [if_neg (show ¬ (false = true) by decide)] at H; exact H
        clear H
        have H := H1
        clear H1
        obtain ⟨y225, hy225⟩ : ∃ y_ : List Int, y_ = (([2, 4, 16, 256] : List Int)) := ⟨_, rfl⟩
        replace H : (culletlaw03_Gf16Subfields.l0 kj2 a0 a1 y225 (y225.length : Int) 0) = some r := by first | (rw [hy225]; with_reducible exact H) | (have H2_ := (Option.bind_some _ _).symm.trans H; rw [hy225]; with_reducible exact H2_) | (have H2_ := (Option.bind_some _ _).symm.trans H; with_reducible exact H2_) | with_reducible exact H | (rw [hy225]; exact H) | exact H
        have Ny225 := Aside0.mk hy225
        clear hy225
        have H' := Aside0.mk H
        clear H
        go_wp2_with (first | ((with_reducible refine gate_dst (N := 19) rfl ?_); refine Kd.R_lit (Kd.int .i64) _ 3 ?hg (N := 19) ?hd (xs := ([2, 4, 16, 256] : List Int)) (inner := [.int .i64 2, .int .i64 4, .int .i64 16, .int .i64 256]) (ok := fun _ => True) (okp := fun _ => True) ?hr ?hp (fun _ hk => hk) trivial (Below.refl _ _) (Nat.le_refl _) (by simp) ?_; (case hd => rfl); (case hg => rfl); (case hr => first | (go_simp; done) | (go_simp; rfl)); (case hp => exact (Reps.one (show Kd.M (Kd.int .i64) _ _ _ 2 [.int .i64 2] from rfl) (Reps.one (show Kd.M (Kd.int .i64) _ _ _ 4 [.int .i64 4] from rfl) (Reps.one (show Kd.M (Kd.int .i64) _ _ _ 16 [.int .i64 16] from rfl) (Reps.one (show Kd.M (Kd.int .i64) _ _ _ 256 [.int .i64 256] from rfl) (Reps.none _ _)))))); intro v226 w9 ho10 hb hg_ hnew_; clear hg_ hnew_; (first | rw [← Ny225.out] at ho10 | (simp only [Int.reduceToNat] at ho10; rw [← Ny225.out] at ho10)); have n0_ := Aside0.mk (Kd.R_lower ho10 (below_size (by repeat (first | (with_reducible first | exact HB.out | apply below_alloc | apply pw_below_drewN | apply below_drew1) | exact HB.out)))); have n1_ := Aside0.mk (below_step (by repeat (first | (with_reducible first | exact HB.out | apply below_alloc | apply pw_below_drewN | apply below_drew1) | exact HB.out)) hb); clear HB; have HO227 := n0_; have HB := n1_; clear n0_ n1_; clear hb ho10; obtain ⟨Ao11, co11, eo11⟩ := Kd.R_slice HO227.out; subst eo11))
        go_loopg [21] kj2 (fun kq v21 w' => ∃ (x21_2 : Int), v21 = .int .i64 x21_2 ∧ Aside0 (culletlaw03_Gf16Subfields.l0 kq a0 a1 y225 (y225.length : Int) x21_2 = some r) ∧ Aside0 (kq ≤ kj2) ∧ Aside0 (Kd.R (Kd.int .i64) 3 w' w.heap.size (fun _ => True) (.slice Ao11 y225.length co11) y225) ∧ Aside0 (Below w.heap.size w w'))
        case atStart => exact ⟨(0), (by first | rfl | (simp; done) | (simp [*]; done)), H', ⟨Nat.le_refl _⟩, ⟨by (with_reducible repeat (first | apply Kd.R_alloc | apply Kd.R_drewN | apply Kd.R_drew)); exact HO227.out⟩, ⟨by repeat (first | (with_reducible first | exact HB.out | apply below_alloc | apply pw_below_drewN | apply below_drew1) | exact HB.out)⟩⟩
        case round =>
          clear H'
          try clear c1
          try clear p2
          try clear c5
          try clear c8
          try clear p2
          obtain ⟨x21_2, rfl, HA, HK2, HO_19, HB⟩ := hrel
          cases gk with
          | zero => exact absurd HA.out (by simp [culletlaw03_Gf16Subfields.l0])
          | succ k2 =>
            have H := HA.out
            clear HA
            simp only [culletlaw03_Gf16Subfields.l0] at H
            by_cases c12 : x21_2 < (y225.length : Int)
            · rw [if_pos c12] at H
              have c12b0 : decide (x21_2 < (y225.length : Int)) = true := decide_eq_true c12
              clear c12
              by_cases c13 : 0 ≤ x21_2
              · rw [if_pos c13] at H
                have c13b0 : decide (0 ≤ x21_2) = true := decide_eq_true c13
                clear c13
                by_cases c14 : x21_2 < (y225.length : Int)
                · rw [if_pos c14] at H
                  have c14b0 : decide (x21_2 < (y225.length : Int)) = true := decide_eq_true c14
                  clear c14
                  replace H := Option.bind_eq_some_iff.mp H
                  obtain ⟨⟨t229, t230⟩, A150, H⟩ := H
                  replace H : ((gf16_Element.f (Go.bits .and .i64 a1 (wrap64 ((rd y225 x21_2) - 1)))).bind fun bt231 => (if t230 = 0 then (if bt231.2 = 0 then ((gf16_Mul.f k2 t229 bt231.1).bind fun t233 => ((gf16_Index.f t233).bind fun t234 => (culletlaw03_Gf16Subfields.j2 k2 a0 a1 (rd y225 x21_2) t229 y225 (y225.length : Int) x21_2 (decide (t234 ≥ (rd y225 x21_2)))))) else (culletlaw03_Gf16Subfields.j2 k2 a0 a1 (rd y225 x21_2) t229 y225 (y225.length : Int) x21_2 true)) else (culletlaw03_Gf16Subfields.j2 k2 a0 a1 (rd y225 x21_2) t229 y225 (y225.length : Int) x21_2 true))) = some r := H
                  have A15 := Aside0.mk A150
                  clear A150
                  replace H := Option.bind_eq_some_iff.mp H
                  obtain ⟨⟨t231, t232⟩, A160, H⟩ := H
                  replace H : (if t230 = 0 then (if t232 = 0 then ((gf16_Mul.f k2 t229 t231).bind fun t233 => ((gf16_Index.f t233).bind fun t234 => (culletlaw03_Gf16Subfields.j2 k2 a0 a1 (rd y225 x21_2) t229 y225 (y225.length : Int) x21_2 (decide (t234 ≥ (rd y225 x21_2)))))) else (culletlaw03_Gf16Subfields.j2 k2 a0 a1 (rd y225 x21_2) t229 y225 (y225.length : Int) x21_2 true)) else (culletlaw03_Gf16Subfields.j2 k2 a0 a1 (rd y225 x21_2) t229 y225 (y225.length : Int) x21_2 true)) = some r := H
                  have A16 := Aside0.mk A160
                  clear A160
                  have HC17 := Aside0.mk H
                  clear H
                  have p228 : 0 ≤ (x21_2 : Int) := of_decide_eq_true (by first | (with_reducible assumption) | assumption)
                  have q228 : x21_2 < (y225.length : Int) := of_decide_eq_true (by first | (with_reducible assumption) | assumption)
                  obtain ⟨ad228, e228, hx228_0⟩ := Kd.at_int (Kd.R_reads' HO_19.out).2.2 x21_2 p228 q228
                  cases e228
                  replace p228 := eq_true p228
                  replace q228 := eq_true q228
                  go_upto_region 8 with (first | ((with_reducible refine gate_callee (f := 22) rfl ?_); refine goesL_ (some 30) rfl rfl Try.func22 (by kernel_rfl) rfl #[.int .i64 (Go.bits .and .i64 a0 (wrap64 ((rd y225 x21_2) - 1)))] rfl (by (try simp only [List.map_toArray, List.map_cons, List.map_nil]); first | done | rfl | (simp only [List.length_drop, List.length_take]; rfl)) ?_; (with_reducible refine (gf16_Element.calls (Go.bits .and .i64 a0 (wrap64 ((rd y225 x21_2) - 1))) t229 t230 _ A15.out).mono ?_); rintro e w18 ⟨rfl, hb⟩; refine ⟨_, rfl, ?_⟩; have n0_ := Aside0.mk (Kd.R_below (by (with_reducible repeat (first | apply Kd.R_alloc | apply Kd.R_drewN | apply Kd.R_drew)); exact HO_19.out) hb); have n1_ := Aside0.mk (below_step (by repeat (first | (with_reducible first | exact HB.out | apply below_alloc | apply pw_below_drewN | apply below_drew1) | exact HB.out)) hb); clear HO_19; clear HB; have HO_19 := n0_; have HB := n1_; clear n0_ n1_; (try clear hb); (try clear hb2); (try clear hk); (try clear hi)) | ((with_reducible refine gate_callee (f := 22) rfl ?_); refine goesL_ (some 38) rfl rfl Try.func22 (by kernel_rfl) rfl #[.int .i64 (Go.bits .and .i64 a1 (wrap64 ((rd y225 x21_2) - 1)))] rfl (by (try simp only [List.map_toArray, List.map_cons, List.map_nil]); first | done | rfl | (simp only [List.length_drop, List.length_take]; rfl)) ?_; (with_reducible refine (gf16_Element.calls (Go.bits .and .i64 a1 (wrap64 ((rd y225 x21_2) - 1))) t231 t232 _ A16.out).mono ?_); rintro e w19 ⟨rfl, hb⟩; refine ⟨_, rfl, ?_⟩; have n0_ := Aside0.mk (Kd.R_below (by (with_reducible repeat (first | apply Kd.R_alloc | apply Kd.R_drewN | apply Kd.R_drew)); exact HO_19.out) hb); have n1_ := Aside0.mk (below_step (by repeat (first | (with_reducible first | exact HB.out | apply below_alloc | apply pw_below_drewN | apply below_drew1) | exact HB.out)) hb); clear HO_19; clear HB; have HO_19 := n0_; have HB := n1_; clear n0_ n1_; (try clear hb); (try clear hb2); (try clear hk); (try clear hi)))
                  (try simp only [Act.put, List.setIfInBounds_toArray, List.set_cons_zero, List.set_cons_succ])
                  go_cut [54] (fun v54 wc => ∃ (kq : Nat) (x54_16 : Bool), v54 = .bool x54_16 ∧ Aside0 (culletlaw03_Gf16Subfields.j2 kq a0 a1 (rd y225 x21_2) t229 y225 (y225.length : Int) x21_2 x54_16 = some r) ∧ Aside0 (kq ≤ k2) ∧ Aside0 (Kd.R (Kd.int .i64) 3 wc w.heap.size (fun _ => True) (.slice (some ad228) y225.length co11) y225) ∧ Aside0 (Below w.heap.size w wc))
                  case first =>
                    have H := HC17.out
                    clear HC17
                    by_cases c20 : t230 = 0
                    · rw [if_pos c20] at H
                      have c20b0 : (t230 == 0) = true := beq_iff_eq.mpr c20
                      have c20b1 : (t230 != 0) = false := bne_eq_false_iff_eq.mpr c20
                      clear c20
                      (first | rw [c20b0] | (simp only [i64_w, i32_w]; rw [c20b0]) | skip)
                      by_cases c21 : t232 = 0
                      · rw [if_pos c21] at H
                        have c21b0 : (t232 == 0) = true := beq_iff_eq.mpr c21
                        have c21b1 : (t232 != 0) = false := bne_eq_false_iff_eq.mpr c21
                        clear c21
                        replace H := Option.bind_eq_some_iff.mp H
                        obtain ⟨t233, A220, H⟩ := H
                        replace H : ((gf16_Index.f t233).bind fun t234 => (culletlaw03_Gf16Subfields.j2 k2 a0 a1 (rd y225 x21_2) t229 y225 (y225.length : Int) x21_2 (decide (t234 ≥ (rd y225 x21_2))))) = some r := H
                        have A22 := Aside0.mk A220
                        clear A220
                        replace H := Option.bind_eq_some_iff.mp H
                        obtain ⟨t234, A230, H⟩ := H
                        replace H : (culletlaw03_Gf16Subfields.j2 k2 a0 a1 (rd y225 x21_2) t229 y225 (y225.length : Int) x21_2 (decide (t234 ≥ (rd y225 x21_2)))) = some r := H
                        have A23 := Aside0.mk A230
                        clear A230
                        have H' := Aside0.mk H
                        clear H
                        go_wp2_with (first | (go_at_call 18; (with_reducible refine (gf16_Mul.calls k2 t229 t231 t233 _ A22.out).mono ?_); rintro e w' ⟨rfl, ⟨nd, rfl⟩⟩) | (go_at_call 23; (with_reducible refine (gf16_Index.calls t233 t234 _ A23.out).mono ?_); rintro e w24 ⟨rfl, hb⟩; have n0_ := Aside0.mk (Kd.R_below (by (with_reducible repeat (first | apply Kd.R_alloc | apply Kd.R_drewN | apply Kd.R_drew)); exact HO_19.out) hb); have n1_ := Aside0.mk (below_step (by repeat (first | (with_reducible first | exact HB.out | apply below_alloc | apply pw_below_drewN | apply below_drew1) | exact HB.out)) hb); clear HO_19; clear HB; have HO_19 := n0_; have HB := n1_; clear n0_ n1_; (try clear hb); (try clear hb2); (try clear hk); (try clear hi)))
                        go_meet
                        case rel => exact ⟨_, (decide (t234 ≥ (rd y225 x21_2))), (by first | rfl | (simp; done) | (simp [*]; done)), H', ⟨by have := HJ2.out; have := HK2.out; first | omega | exact Nat.le_refl _⟩, ⟨by (with_reducible repeat (first | apply Kd.R_alloc | apply Kd.R_drewN | apply Kd.R_drew)); exact HO_19.out⟩, ⟨by repeat (first | (with_reducible first | exact HB.out | apply below_alloc | apply pw_below_drewN | apply below_drew1) | exact HB.out)⟩⟩
                      · rw [if_neg c21] at H
                        have c21b0 : (t232 == 0) = false := beq_eq_false_iff_ne.mpr c21
                        have c21b1 : (t232 != 0) = true := bne_iff_ne.mpr c21
                        have H' := Aside0.mk H
                        clear H
                        go_wp2
                        go_meet
                        case rel => exact ⟨_, (true), (by first | rfl | (simp; done) | (simp [*]; done)), H', ⟨by have := HJ2.out; have := HK2.out; first | omega | exact Nat.le_refl _⟩, ⟨by (with_reducible repeat (first | apply Kd.R_alloc | apply Kd.R_drewN | apply Kd.R_drew)); exact HO_19.out⟩, ⟨by repeat (first | (with_reducible first | exact HB.out | apply below_alloc | apply pw_below_drewN | apply below_drew1) | exact HB.out)⟩⟩
                    · rw [if_neg c20] at H
                      have c20b0 : (t230 == 0) = false := beq_eq_false_iff_ne.mpr c20
                      have c20b1 : (t230 != 0) = true := bne_iff_ne.mpr c20
                      (first | rw [c20b0] | (simp only [i64_w, i32_w]; rw [c20b0]) | skip)
                      have H' := Aside0.mk H
                      clear H
                      go_wp2
                      go_meet
                      case rel => exact ⟨_, (true), (by first | rfl | (simp; done) | (simp [*]; done)), H', ⟨by have := HJ2.out; have := HK2.out; first | omega | exact Nat.le_refl _⟩, ⟨by (with_reducible repeat (first | apply Kd.R_alloc | apply Kd.R_drewN | apply Kd.R_drew)); exact HO_19.out⟩, ⟨by repeat (first | (with_reducible first | exact HB.out | apply below_alloc | apply pw_below_drewN | apply below_drew1) | exact HB.out)⟩⟩
                  case rest =>
                    clear HC17
                    try clear c1
                    try clear c2
                    try clear p2
                    try clear q2
                    try clear hx2
                    try clear c5
                    try clear p6
                    try clear c8
                    try clear c12
                    try clear c12b0
                    try clear c13
                    try clear c13b0
                    try clear c14
                    try clear c14b0
                    try clear c17
                    try clear c20
                    try clear c20b0
                    try clear c20b1
                    try clear c21
                    try clear c21b0
                    try clear c21b1
                    try clear c22
                    try clear p22
                    try clear q22
                    try clear hx22
                    try clear hx228_0
                    try clear p2
                    try clear p228
                    try clear q228
                    obtain ⟨kq, x54_16, rfl, HA, HJ16, HO_19, HB⟩ := hcut
                    cases kq with
                    | zero => exact absurd HA.out (by simp [culletlaw03_Gf16Subfields.j2])
                    | succ kj16 =>
                      have H := HA.out
                      clear HA
                      simp only [culletlaw03_Gf16Subfields.j2] at H
                      by_cases c25 : x54_16 = true
                      · subst c25
                        have H1 : (some false) = some r := by rw [if_pos rfl] at H; exact H
                        clear H
                        have H := H1
                        clear H1
                        obtain rfl := Option.some.inj H
                        go_wp2
                        go_ret
                        exact ⟨by first | rfl | (simp [errW_none, errW_some] <;> rfl) | (simp [*, errW_none, errW_some] <;> rfl), by repeat (first | (with_reducible first | exact HB.out | apply below_alloc | apply pw_below_drewN | apply below_drew1) | exact HB.out)⟩
                      · replace c25 := Bool.eq_false_iff.mpr c25
                        subst c25
                        have H1 : ((gf16_Inv.f kj16 t229).bind fun bt235 => (if t229 = 0 then (culletlaw03_Gf16Subfields.l0 kj16 a0 a1 y225 (y225.length : Int) (wrap64 (x21_2 + 1))) else (if bt235.2 = 0 then ((gf16_Index.f bt235.1).bind fun t237 => (if t237 ≥ (rd y225 x21_2) then (some false) else (culletlaw03_Gf16Subfields.l0 kj16 a0 a1 y225 (y225.length : Int) (wrap64 (x21_2 + 1))))) else (some false)))) = some r := by rw [if_neg (show ¬ (false = true) by decide)] at H; exact H
                        clear H
                        have H := H1
                        clear H1
                        replace H := Option.bind_eq_some_iff.mp H
                        obtain ⟨⟨t235, t236⟩, A260, H⟩ := H
                        replace H : (if t229 = 0 then (culletlaw03_Gf16Subfields.l0 kj16 a0 a1 y225 (y225.length : Int) (wrap64 (x21_2 + 1))) else (if t236 = 0 then ((gf16_Index.f t235).bind fun t237 => (if t237 ≥ (rd y225 x21_2) then (some false) else (culletlaw03_Gf16Subfields.l0 kj16 a0 a1 y225 (y225.length : Int) (wrap64 (x21_2 + 1))))) else (some false))) = some r := H
                        have A26 := Aside0.mk A260
                        clear A260
                        by_cases c27 : t229 = 0
                        · rw [if_pos c27] at H
                          have c27b0 : (t229 == 0) = true := beq_iff_eq.mpr c27
                          have c27b1 : (t229 != 0) = false := bne_eq_false_iff_eq.mpr c27
                          clear c27
                          have H' := Aside0.mk H
                          clear H
                          go_wp2_with (first | ((with_reducible refine gate_callee (f := 19) rfl ?_); refine goesL_ (some 57) rfl rfl Try.func19 (by kernel_rfl) rfl #[.int .u16 t229] rfl (by (try simp only [List.map_toArray, List.map_cons, List.map_nil]); first | done | rfl | (simp only [List.length_drop, List.length_take]; rfl)) ?_; (with_reducible refine (gf16_Inv.calls kj16 t229 t235 t236 _ A26.out).mono ?_); rintro e w' ⟨rfl, ⟨nd, rfl⟩⟩; refine ⟨_, rfl, ?_⟩))
                          go_roundg kj16
                          case measure => have := HJ2.out; have := HK2.out; have := HJ16.out; omega
                          case rel => exact ⟨(wrap64 (x21_2 + 1)), (by first | rfl | (simp; done) | (simp [*]; done)), H', ⟨by have := HJ2.out; have := HK2.out; have := HJ16.out; omega⟩, ⟨by (with_reducible repeat (first | apply Kd.R_alloc | apply Kd.R_drewN | apply Kd.R_drew)); exact HO_19.out⟩, ⟨by repeat (first | (with_reducible first | exact HB.out | apply below_alloc | apply pw_below_drewN | apply below_drew1) | exact HB.out)⟩⟩
                        · rw [if_neg c27] at H
                          have c27b0 : (t229 == 0) = false := beq_eq_false_iff_ne.mpr c27
                          have c27b1 : (t229 != 0) = true := bne_iff_ne.mpr c27
                          by_cases c28 : t236 = 0
                          · rw [if_pos c28] at H
                            have c28b0 : (t236 == 0) = true := beq_iff_eq.mpr c28
                            have c28b1 : (t236 != 0) = false := bne_eq_false_iff_eq.mpr c28
                            clear c28
                            replace H := Option.bind_eq_some_iff.mp H
                            obtain ⟨t237, A290, H⟩ := H
                            replace H : (if t237 ≥ (rd y225 x21_2) then (some false) else (culletlaw03_Gf16Subfields.l0 kj16 a0 a1 y225 (y225.length : Int) (wrap64 (x21_2 + 1)))) = some r := H
                            have A29 := Aside0.mk A290
                            clear A290
                            by_cases c30 : t237 ≥ (rd y225 x21_2)
                            · rw [if_pos c30] at H
                              have c30b0 : decide ((rd y225 x21_2) ≤ t237) = true := decide_eq_true c30
                              clear c30
                              obtain rfl := Option.some.inj H
                              go_wp2_with (first | ((with_reducible refine gate_callee (f := 19) rfl ?_); refine goesL_ (some 57) rfl rfl Try.func19 (by kernel_rfl) rfl #[.int .u16 t229] rfl (by (try simp only [List.map_toArray, List.map_cons, List.map_nil]); first | done | rfl | (simp only [List.length_drop, List.length_take]; rfl)) ?_; (with_reducible refine (gf16_Inv.calls kj16 t229 t235 t236 _ A26.out).mono ?_); rintro e w' ⟨rfl, ⟨nd, rfl⟩⟩; refine ⟨_, rfl, ?_⟩) | (go_at_call 23; (with_reducible refine (gf16_Index.calls t235 t237 _ A29.out).mono ?_); rintro e w31 ⟨rfl, hb⟩; have n0_ := Aside0.mk (Kd.R_below (by (with_reducible repeat (first | apply Kd.R_alloc | apply Kd.R_drewN | apply Kd.R_drew)); exact HO_19.out) hb); have n1_ := Aside0.mk (below_step (by repeat (first | (with_reducible first | exact HB.out | apply below_alloc | apply pw_below_drewN | apply below_drew1) | exact HB.out)) hb); clear HO_19; clear HB; have HO_19 := n0_; have HB := n1_; clear n0_ n1_; (try clear hb); (try clear hb2); (try clear hk); (try clear hi)))
                              go_ret
                              exact ⟨by first | rfl | (simp [errW_none, errW_some] <;> rfl) | (simp [*, errW_none, errW_some] <;> rfl), by repeat (first | (with_reducible first | exact HB.out | apply below_alloc | apply pw_below_drewN | apply below_drew1) | exact HB.out)⟩
                            · rw [if_neg c30] at H
                              have c30b0 : decide ((rd y225 x21_2) ≤ t237) = false := decide_eq_false c30
                              clear c30
                              have H' := Aside0.mk H
                              clear H
                              go_wp2_with (first | ((with_reducible refine gate_callee (f := 19) rfl ?_); refine goesL_ (some 57) rfl rfl Try.func19 (by kernel_rfl) rfl #[.int .u16 t229] rfl (by (try simp only [List.map_toArray, List.map_cons, List.map_nil]); first | done | rfl | (simp only [List.length_drop, List.length_take]; rfl)) ?_; (with_reducible refine (gf16_Inv.calls kj16 t229 t235 t236 _ A26.out).mono ?_); rintro e w' ⟨rfl, ⟨nd, rfl⟩⟩; refine ⟨_, rfl, ?_⟩) | (go_at_call 23; (with_reducible refine (gf16_Index.calls t235 t237 _ A29.out).mono ?_); rintro e w32 ⟨rfl, hb⟩; have n0_ := Aside0.mk (Kd.R_below (by (with_reducible repeat (first | apply Kd.R_alloc | apply Kd.R_drewN | apply Kd.R_drew)); exact HO_19.out) hb); have n1_ := Aside0.mk (below_step (by repeat (first | (with_reducible first | exact HB.out | apply below_alloc | apply pw_below_drewN | apply below_drew1) | exact HB.out)) hb); clear HO_19; clear HB; have HO_19 := n0_; have HB := n1_; clear n0_ n1_; (try clear hb); (try clear hb2); (try clear hk); (try clear hi)))
                              go_roundg kj16
                              case measure => have := HJ2.out; have := HK2.out; have := HJ16.out; omega
                              case rel => exact ⟨(wrap64 (x21_2 + 1)), (by first | rfl | (simp; done) | (simp [*]; done)), H', ⟨by have := HJ2.out; have := HK2.out; have := HJ16.out; omega⟩, ⟨by (with_reducible repeat (first | apply Kd.R_alloc | apply Kd.R_drewN | apply Kd.R_drew)); exact HO_19.out⟩, ⟨by repeat (first | (with_reducible first | exact HB.out | apply below_alloc | apply pw_below_drewN | apply below_drew1) | exact HB.out)⟩⟩
                          · rw [if_neg c28] at H
                            have c28b0 : (t236 == 0) = false := beq_eq_false_iff_ne.mpr c28
                            have c28b1 : (t236 != 0) = true := bne_iff_ne.mpr c28
                            obtain rfl := Option.some.inj H
                            go_wp2_with (first | ((with_reducible refine gate_callee (f := 19) rfl ?_); refine goesL_ (some 57) rfl rfl Try.func19 (by kernel_rfl) rfl #[.int .u16 t229] rfl (by (try simp only [List.map_toArray, List.map_cons, List.map_nil]); first | done | rfl | (simp only [List.length_drop, List.length_take]; rfl)) ?_; (with_reducible refine (gf16_Inv.calls kj16 t229 t235 t236 _ A26.out).mono ?_); rintro e w' ⟨rfl, ⟨nd, rfl⟩⟩; refine ⟨_, rfl, ?_⟩))
                            go_ret
                            exact ⟨by first | rfl | (simp [errW_none, errW_some] <;> rfl) | (simp [*, errW_none, errW_some] <;> rfl), by repeat (first | (with_reducible first | exact HB.out | apply below_alloc | apply pw_below_drewN | apply below_drew1) | exact HB.out)⟩
                · rw [if_neg c14] at H
                  exact absurd H (by simp)
              · rw [if_neg c13] at H
                exact absurd H (by simp)
            · rw [if_neg c12] at H
              have c12b0 : decide (x21_2 < (y225.length : Int)) = false := decide_eq_false c12
              clear c12
              obtain rfl := Option.some.inj H
              go_wp2
              go_ret
              exact ⟨by first | rfl | (simp [errW_none, errW_some] <;> rfl) | (simp [*, errW_none, errW_some] <;> rfl), by repeat (first | (with_reducible first | exact HB.out | apply below_alloc | apply pw_below_drewN | apply below_drew1) | exact HB.out)⟩

/-- THE ONE PURE STATEMENT of culletlaw03_Gf16Subfields: yours. -/
def culletlaw03_Gf16Subfields.Pure : Prop := ∀ (a0 : Int) (a1 : Int), (Lit.int .i64 a0).wf = true → (Lit.int .i64 a1).wf = true → ∃ k, culletlaw03_Gf16Subfields.f k a0 a1 = some true
theorem culletlaw03_Gf16Subfields.walk (P : culletlaw03_Gf16Subfields.Pure) (a0 : Int) (a1 : Int) (w : World) (w0 : (Lit.int .i64 a0).wf = true) (w1 : (Lit.int .i64 a1).wf = true) :
    Calls Try.prog 8 #[.int .i64 a0, .int .i64 a1] w fun e w' => e = .returned (.bool true) ∧ Below w.heap.size w w' := by
  obtain ⟨k, h⟩ := P a0 a1 w0 w1
  refine (culletlaw03_Gf16Subfields.calls k a0 a1 true w h).mono ?_
  rintro e w' ⟨rfl, hd⟩
  exact ⟨rfl, hd⟩

/-! ### gf16_Trace: function 30 -/
def gf16_Trace.l0 : Nat → Int → Int → Int → Option (Int)
  | 0, _, _, _ => none
  | k + 1, x0, x3, x4 => if x4 < 16 then ((gf16_Mul.f k x0 x0).bind fun t238 => (gf16_Trace.l0 k t238 (Go.bits .xor .u16 x3 x0) (wrap64 (x4 + 1)))) else (some (wrap64 (x3)))
def gf16_Trace.f (k : Nat) (a0 : Int) : Option (Int) := gf16_Trace.l0 k a0 0 0
theorem gf16_Trace.mono_l : ∀ k, (∀ y0 y1 y2, LeO (gf16_Trace.l0 k y0 y1 y2) (gf16_Trace.l0 (k + 1) y0 y1 y2))
  | 0 => fun _ _ _ r h => by simp [gf16_Trace.l0] at h
  | k + 1 => by
    have ih0 := gf16_Trace.mono_l k
    · intro y0 y1 y2
      unfold gf16_Trace.l0
      repeat' first
      | (with_reducible exact ih0 _ _ _)
      | (with_reducible exact gf16_Mul.mono _ _ _)
      | (with_reducible exact LeO.refl _)
      | (with_reducible exact LeO.none _)
      | (with_reducible refine LeO.ite ?_ ?_)
      | (with_reducible refine LeO.bind ?_ (fun _ => ?_))
      | exact ih0 _ _ _
      | exact gf16_Mul.mono _ _ _
      | exact LeO.none _
      | refine LeO.ite ?_ ?_
      | refine LeO.bind ?_ (fun _ => ?_)
theorem gf16_Trace.mono : ∀ a0 k, LeO (gf16_Trace.f k a0) (gf16_Trace.f (k + 1) a0) := by
  intro a0 k
  have ih0 := gf16_Trace.mono_l k
  unfold gf16_Trace.f
  repeat' first
      | (with_reducible exact ih0 _ _ _)
      | (with_reducible exact gf16_Mul.mono _ _ _)
      | (with_reducible exact LeO.refl _)
      | (with_reducible exact LeO.none _)
      | (with_reducible refine LeO.ite ?_ ?_)
      | (with_reducible refine LeO.bind ?_ (fun _ => ?_))
      | exact ih0 _ _ _
      | exact gf16_Mul.mono _ _ _
      | exact LeO.none _
      | refine LeO.ite ?_ ?_
      | refine LeO.bind ?_ (fun _ => ?_)
set_option maxHeartbeats 8000000 in
set_option maxRecDepth 100000 in
theorem gf16_Trace.calls (k : Nat) (a0 : Int) (r : Int) (w : World) (h : gf16_Trace.f k a0 = some r) :
    Calls Try.prog 30 #[.int .u16 a0] w fun e w' => e = .returned (.int .i64 r) ∧ Drawn0 w w' := by
  have H : (gf16_Trace.l0 k a0 0 0) = some r := h
  clear h
  have H' := Aside0.mk H
  clear H
  go_enter Try.func30, Try.ntmps30
  go_wp2
  go_loopg [0, 3, 4] k (fun kq v0 v3 v4 w' => ∃ (x0_1 : Int) (x3_1 : Int) (x4_1 : Int), v0 = .int .u16 x0_1 ∧ v3 = .int .u16 x3_1 ∧ v4 = .int .i64 x4_1 ∧ Aside0 (gf16_Trace.l0 kq x0_1 x3_1 x4_1 = some r) ∧ Aside0 (kq ≤ k) ∧ Drawn0 w w')
  case atStart => exact ⟨(a0), (0), (0), (by first | rfl | (simp; done) | (simp [*]; done)), (by first | rfl | (simp; done) | (simp [*]; done)), (by first | rfl | (simp; done) | (simp [*]; done)), H', ⟨Nat.le_refl _⟩, by repeat (first | exact Drawn0.refl _ | apply Drawn0.step)⟩
  case round =>
    clear H'
    obtain ⟨x0_1, x3_1, x4_1, rfl, rfl, rfl, HA, HK1, ⟨m1, rfl⟩⟩ := hrel
    cases gk with
    | zero => exact absurd HA.out (by simp [gf16_Trace.l0])
    | succ k1 =>
      have H := HA.out
      clear HA
      simp only [gf16_Trace.l0] at H
      by_cases c2 : x4_1 < 16
      · rw [if_pos c2] at H
        have c2b0 : decide (x4_1 < 16) = true := decide_eq_true c2
        clear c2
        replace H := Option.bind_eq_some_iff.mp H
        obtain ⟨t238, A30, H⟩ := H
        replace H : (gf16_Trace.l0 k1 t238 (Go.bits .xor .u16 x3_1 x0_1) (wrap64 (x4_1 + 1))) = some r := H
        have A3 := Aside0.mk A30
        clear A30
        have H' := Aside0.mk H
        clear H
        go_wp2_with (first | ((with_reducible refine gate_callee (f := 18) rfl ?_); refine goesL_ (some 11) rfl rfl Try.func18 (by kernel_rfl) rfl #[.int .u16 x0_1, .int .u16 x0_1] rfl (by (try simp only [List.map_toArray, List.map_cons, List.map_nil]); first | done | rfl | (simp only [List.length_drop, List.length_take]; rfl)) ?_; (with_reducible refine (gf16_Mul.calls k1 x0_1 x0_1 t238 _ A3.out).mono ?_); rintro e w' ⟨rfl, ⟨nd, rfl⟩⟩; refine ⟨_, rfl, ?_⟩))
        go_roundg k1
        case measure => have := HK1.out; omega
        case rel => exact ⟨(t238), (Go.bits .xor .u16 x3_1 x0_1), (wrap64 (x4_1 + 1)), (by first | rfl | (simp; done) | (simp [*]; done)), (by first | rfl | (simp; done) | (simp [*]; done)), (by first | rfl | (simp; done) | (simp [*]; done)), H', ⟨by have := HK1.out; omega⟩, by repeat (first | exact Drawn0.refl _ | apply Drawn0.step)⟩
      · rw [if_neg c2] at H
        have c2b0 : decide (x4_1 < 16) = false := decide_eq_false c2
        clear c2
        obtain rfl := Option.some.inj H
        go_wp2
        go_ret
        exact ⟨by first | rfl | (simp; done) | (simp [*]; done), by repeat (first | exact Drawn0.refl _ | apply Drawn0.step)⟩

end Go.Proofs.Ytedaifgbnojojaa.Q
