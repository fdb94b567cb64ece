import Derived.Test.YtklkcenffajfeaaQx0
import Derived.Test.YtklkcenffajfeaaQx2
-- Printed for this claim by mp.py, a program of its prover, through the kit's print. Lean checks it.
namespace Go.Proofs.Ytklkcenffajfeaa.Q
open Go.RowKit Go.Proofs.YtklkcenffajfeaaW.PrintWords Go.Proofs.YtklkcenffajfeaaW.PrintLast Go.Proofs.YtklkcenffajfeaaW.PrintMore Go.Proofs.Ytklkcenffajfeaa.A Go.Proofs.Ytklkcenffajfeaa.F Go.Proofs.Ytklkcenffajfeaa.G
attribute [local go_sem] max2_int min2_int max_two min_two max_three min_three max_four min_four   -- for this text's walks alone
set_option linter.unusedVariables false
set_option linter.unusedSimpArgs false

/-! ### culletref15_Locator: function 24 -/
mutual
def culletref15_Locator.j0 : Nat → List Int → Int → Bool → Option (List Int × Int)
 | 0, _, _, _ => none
 | k + 1, x0, x1, x21 => if x21 = true then (some (([] : List Int), 7)) else ((culletref15_Lost.f k x0 x1).bind fun t166 => (if t166 = true then ((culletref15_Logs.f k x1).bind fun bt167 => (if 0 ≤ (IntKind.u64.wrap (x1)) then (if (shl .i64 (x0.length : Int) (IntKind.u64.wrap (x1))) > 4194304 then (if 0 ≤ (bt167.1.length : Int) then (if ((bt167.1.length : Int) : Int).toNat ≤ 140737488355328 then (culletref15_Locator.l0 k bt167.1 (List.replicate ((bt167.1.length : Int) : Int).toNat 0) x0 (x0.length : Int) 0) else (none)) else (none)) else (if 0 ≤ (bt167.1.length : Int) then (if ((bt167.1.length : Int) : Int).toNat ≤ 35184372088832 then ((some (List.replicate ((bt167.1.length : Int) : Int).toNat 0 : List Int)).bind fun y180 => (culletref15_Locator.l1 k x0 bt167.1 y180 (y180.length : Int) 0)) else (none)) else (none))) else (none))) else (some (([] : List Int), 31))))
def culletref15_Locator.l0 : Nat → List Int → List Int → List Int → Int → Int → Option (List Int × Int)
 | 0, _, _, _, _, _ => none
 | k + 1, x6, x8, x40, x41, x42 => if x42 < x41 then (if 0 ≤ x42 then (if x42 < (x40.length : Int) then (if 0 ≤ (rd x40 x42) then (if (rd x40 x42) < (x8.length : Int) then (culletref15_Locator.l0 k x6 (x8.set ((rd x40 x42) : Int).toNat 1) x40 x41 (wrap64 (x42 + 1))) else (none)) else (none)) else (none)) else (none)) else ((culletref15_Convolve.f k x8 x6).bind fun bt176 => (some (bt176.1, bt176.2)))
def culletref15_Locator.l1 : Nat → List Int → List Int → List Int → Int → Int → Option (List Int × Int)
 | 0, _, _, _, _, _ => none
 | k + 1, x0, x6, x11, x59, x60 => if x60 < x59 then (culletref15_Locator.l2 k x0 x6 x11 x60 0 x59 x60 x0 (x0.length : Int) 0) else ((culletref15_words.f k x11).bind fun t183 => (some (t183, 0)))
def culletref15_Locator.l2 : Nat → List Int → List Int → List Int → Int → Int → Int → Int → List Int → Int → Int → Option (List Int × Int)
 | 0, _, _, _, _, _, _, _, _, _, _ => none
 | k + 1, x0, x6, x11, x12, x13, x59, x60, x63, x64, x65 => if x65 < x64 then (if 0 ≤ x65 then (if x65 < (x63.length : Int) then (if 0 ≤ (Go.bits .xor .i64 x12 (rd x63 x65)) then (if (Go.bits .xor .i64 x12 (rd x63 x65)) < (x6.length : Int) then (culletref15_Locator.l2 k x0 x6 x11 x12 (wrap64 (x13 + (wrap64 (rd x6 (Go.bits .xor .i64 x12 (rd x63 x65)))))) x59 x60 x63 x64 (wrap64 (x65 + 1))) else (none)) else (none)) else (none)) else (none)) else (if 0 ≤ x12 then (if x12 < (x11.length : Int) then (culletref15_Locator.l1 k x0 x6 (x11.set (x12 : Int).toNat x13) x59 (wrap64 (x60 + 1))) else (none)) else (none))
end
def culletref15_Locator.f (k : Nat) (l0 : List Int) (a1 : Int) : Option (List Int × Int) := if a1 < 0 then (culletref15_Locator.j0 k l0 a1 true) else (culletref15_Locator.j0 k l0 a1 (decide (a1 > 16)))
theorem culletref15_Locator.mono_l : ∀ k, (∀ y0 y1 y2, LeO (culletref15_Locator.j0 k y0 y1 y2) (culletref15_Locator.j0 (k + 1) y0 y1 y2)) ∧ (∀ y0 y1 y2 y3 y4, LeO (culletref15_Locator.l0 k y0 y1 y2 y3 y4) (culletref15_Locator.l0 (k + 1) y0 y1 y2 y3 y4)) ∧ (∀ y0 y1 y2 y3 y4, LeO (culletref15_Locator.l1 k y0 y1 y2 y3 y4) (culletref15_Locator.l1 (k + 1) y0 y1 y2 y3 y4)) ∧ (∀ y0 y1 y2 y3 y4 y5 y6 y7 y8 y9, LeO (culletref15_Locator.l2 k y0 y1 y2 y3 y4 y5 y6 y7 y8 y9) (culletref15_Locator.l2 (k + 1) y0 y1 y2 y3 y4 y5 y6 y7 y8 y9))
 | 0 => ⟨fun _ _ _ r h => by simp [culletref15_Locator.j0] at h, fun _ _ _ _ _ r h => by simp [culletref15_Locator.l0] at h, fun _ _ _ _ _ r h => by simp [culletref15_Locator.l1] at h, fun _ _ _ _ _ _ _ _ _ _ r h => by simp [culletref15_Locator.l2] at h⟩
 | k + 1 => by
  obtain ⟨ih0, ih1, ih2, ih3⟩ := culletref15_Locator.mono_l k
  refine ⟨?_, ?_, ?_, ?_⟩
  ·intro y0 y1 y2
   unfold culletref15_Locator.j0
   repeat' first
   | (with_reducible exact ih0 _ _ _)
   | (with_reducible exact ih1 _ _ _ _ _)
   | (with_reducible exact ih2 _ _ _ _ _)
   | (with_reducible exact ih3 _ _ _ _ _ _ _ _ _ _)
   | (with_reducible exact culletref15_Convolve.mono _ _ _)
   | (with_reducible exact culletref15_Logs.mono _ _)
   | (with_reducible exact culletref15_Lost.mono _ _ _)
   | (with_reducible exact culletref15_words.mono _ _)
   | (with_reducible exact LeO.refl _)
   | (with_reducible exact LeO.none _)
   | (with_reducible refine LeO.ite ?_ ?_)
   | (with_reducible refine LeO.bind ?_ (fun _ => ?_))
   | exact ih0 _ _ _
   | exact ih1 _ _ _ _ _
   | exact ih2 _ _ _ _ _
   | exact ih3 _ _ _ _ _ _ _ _ _ _
   | exact culletref15_Convolve.mono _ _ _
   | exact culletref15_Logs.mono _ _
   | exact culletref15_Lost.mono _ _ _
   | exact culletref15_words.mono _ _
   | exact LeO.none _
   | refine LeO.ite ?_ ?_
   | refine LeO.bind ?_ (fun _ => ?_)
  ·intro y0 y1 y2 y3 y4
   unfold culletref15_Locator.l0
   repeat' first
   | (with_reducible exact ih0 _ _ _)
   | (with_reducible exact ih1 _ _ _ _ _)
   | (with_reducible exact ih2 _ _ _ _ _)
   | (with_reducible exact ih3 _ _ _ _ _ _ _ _ _ _)
   | (with_reducible exact culletref15_Convolve.mono _ _ _)
   | (with_reducible exact culletref15_Logs.mono _ _)
   | (with_reducible exact culletref15_Lost.mono _ _ _)
   | (with_reducible exact culletref15_words.mono _ _)
   | (with_reducible exact LeO.refl _)
   | (with_reducible exact LeO.none _)
   | (with_reducible refine LeO.ite ?_ ?_)
   | (with_reducible refine LeO.bind ?_ (fun _ => ?_))
   | exact ih0 _ _ _
   | exact ih1 _ _ _ _ _
   | exact ih2 _ _ _ _ _
   | exact ih3 _ _ _ _ _ _ _ _ _ _
   | exact culletref15_Convolve.mono _ _ _
   | exact culletref15_Logs.mono _ _
   | exact culletref15_Lost.mono _ _ _
   | exact culletref15_words.mono _ _
   | exact LeO.none _
   | refine LeO.ite ?_ ?_
   | refine LeO.bind ?_ (fun _ => ?_)
  ·intro y0 y1 y2 y3 y4
   unfold culletref15_Locator.l1
   repeat' first
   | (with_reducible exact ih0 _ _ _)
   | (with_reducible exact ih1 _ _ _ _ _)
   | (with_reducible exact ih2 _ _ _ _ _)
   | (with_reducible exact ih3 _ _ _ _ _ _ _ _ _ _)
   | (with_reducible exact culletref15_Convolve.mono _ _ _)
   | (with_reducible exact culletref15_Logs.mono _ _)
   | (with_reducible exact culletref15_Lost.mono _ _ _)
   | (with_reducible exact culletref15_words.mono _ _)
   | (with_reducible exact LeO.refl _)
   | (with_reducible exact LeO.none _)
   | (with_reducible refine LeO.ite ?_ ?_)
   | (with_reducible refine LeO.bind ?_ (fun _ => ?_))
   | exact ih0 _ _ _
   | exact ih1 _ _ _ _ _
   | exact ih2 _ _ _ _ _
   | exact ih3 _ _ _ _ _ _ _ _ _ _
   | exact culletref15_Convolve.mono _ _ _
   | exact culletref15_Logs.mono _ _
   | exact culletref15_Lost.mono _ _ _
   | exact culletref15_words.mono _ _
   | exact LeO.none _
   | refine LeO.ite ?_ ?_
   | refine LeO.bind ?_ (fun _ => ?_)
  ·intro y0 y1 y2 y3 y4 y5 y6 y7 y8 y9
   unfold culletref15_Locator.l2
   repeat' first
   | (with_reducible exact ih0 _ _ _)
   | (with_reducible exact ih1 _ _ _ _ _)
   | (with_reducible exact ih2 _ _ _ _ _)
   | (with_reducible exact ih3 _ _ _ _ _ _ _ _ _ _)
   | (with_reducible exact culletref15_Convolve.mono _ _ _)
   | (with_reducible exact culletref15_Logs.mono _ _)
   | (with_reducible exact culletref15_Lost.mono _ _ _)
   | (with_reducible exact culletref15_words.mono _ _)
   | (with_reducible exact LeO.refl _)
   | (with_reducible exact LeO.none _)
   | (with_reducible refine LeO.ite ?_ ?_)
   | (with_reducible refine LeO.bind ?_ (fun _ => ?_))
   | exact ih0 _ _ _
   | exact ih1 _ _ _ _ _
   | exact ih2 _ _ _ _ _
   | exact ih3 _ _ _ _ _ _ _ _ _ _
   | exact culletref15_Convolve.mono _ _ _
   | exact culletref15_Logs.mono _ _
   | exact culletref15_Lost.mono _ _ _
   | exact culletref15_words.mono _ _
   | exact LeO.none _
   | refine LeO.ite ?_ ?_
   | refine LeO.bind ?_ (fun _ => ?_)
theorem culletref15_Locator.mono : ∀ a0 a1 k, LeO (culletref15_Locator.f k a0 a1) (culletref15_Locator.f (k + 1) a0 a1) := by
 intro a0 a1 k
 obtain ⟨ih0, ih1, ih2, ih3⟩ := culletref15_Locator.mono_l k
 unfold culletref15_Locator.f
 repeat' first
   | (with_reducible exact ih0 _ _ _)
   | (with_reducible exact ih1 _ _ _ _ _)
   | (with_reducible exact ih2 _ _ _ _ _)
   | (with_reducible exact ih3 _ _ _ _ _ _ _ _ _ _)
   | (with_reducible exact culletref15_Convolve.mono _ _ _)
   | (with_reducible exact culletref15_Logs.mono _ _)
   | (with_reducible exact culletref15_Lost.mono _ _ _)
   | (with_reducible exact culletref15_words.mono _ _)
   | (with_reducible exact LeO.refl _)
   | (with_reducible exact LeO.none _)
   | (with_reducible refine LeO.ite ?_ ?_)
   | (with_reducible refine LeO.bind ?_ (fun _ => ?_))
   | exact ih0 _ _ _
   | exact ih1 _ _ _ _ _
   | exact ih2 _ _ _ _ _
   | exact ih3 _ _ _ _ _ _ _ _ _ _
   | exact culletref15_Convolve.mono _ _ _
   | exact culletref15_Logs.mono _ _
   | exact culletref15_Lost.mono _ _ _
   | exact culletref15_words.mono _ _
   | exact LeO.none _
   | refine LeO.ite ?_ ?_
   | refine LeO.bind ?_ (fun _ => ?_)
set_option maxHeartbeats 8000000 in
set_option maxRecDepth 100000 in
theorem culletref15_Locator.calls (k : Nat) (A0 : Option Addr) (c0 : Nat) (l0 : List Int) (a1 : Int) (r1 : List Int) (r2 : Int) (w : World) (hr0 : Kd.C (Kd.int .i64) w A0 l0.length l0) (hc0 : l0.length ≤ c0) (h : culletref15_Locator.f k l0 a1 = some (r1, r2)) :
  Calls Try.prog 24 #[.slice A0 l0.length c0, .int .i64 a1] w fun e w' => ∃ v0_ : Value, e = .returned (.tuple #[v0_, .int .i64 r2]) ∧ Kd.R (Kd.int .u16) 33 w' w.heap.size (fun _ => True) v0_ r1 ∧ Below w.heap.size w w' := by
 have HR0 := Aside0.mk hr0
 have HC0 := Aside0.mk hc0
 clear hr0 hc0
 have HB := Aside0.mk (Below.refl w.heap.size w)
 have H : (if a1 < 0 then (culletref15_Locator.j0 k l0 a1 true) else (culletref15_Locator.j0 k l0 a1 (decide (a1 > 16)))) = some (r1, r2) := h
 clear h
 have HC3 := Aside0.mk H
 clear H
 go_enter Try.func24, Try.ntmps24
 go_upto_region 1 with (fail)
 go_cut [21] (fun v21 wc => ∃ (kq : Nat) (x21_2 : Bool), v21 = .bool x21_2 ∧ Aside0 (culletref15_Locator.j0 kq l0 a1 x21_2 = some (r1, r2)) ∧ Aside0 (kq ≤ k) ∧ Aside0 (Below w.heap.size w wc))
 case first =>
  have H := HC3.out
  clear HC3
  by_cases c4 : a1 < 0
  ·rw [if_pos c4] at H
   have c4b0 : decide (a1 < 0) = true := decide_eq_true c4
   clear c4
   (first | rw [c4b0] | (simp only [i64_w, i32_w]; rw [c4b0]) | skip)
   have H' := Aside0.mk H
   clear H
   go_wp2
   go_meet
   case rel => exact ⟨_, (true), (by first | rfl | (simp; done) | (simp [*]; done)), H', ⟨by first | omega | exact Nat.le_refl _⟩, ⟨by repeat (first | (with_reducible first | exact HB.out | apply below_alloc | apply pw_below_drewN | apply below_drew1) | exact HB.out)⟩⟩
  ·rw [if_neg c4] at H
   have c4b0 : decide (a1 < 0) = false := decide_eq_false c4
   clear c4
   (first | rw [c4b0] | (simp only [i64_w, i32_w]; rw [c4b0]) | skip)
   have H' := Aside0.mk H
   clear H
   go_wp2
   go_meet
   case rel => exact ⟨_, (decide (a1 > 16)), (by first | rfl | (simp; done) | (simp [*]; done)), H', ⟨by first | omega | exact Nat.le_refl _⟩, ⟨by repeat (first | (with_reducible first | exact HB.out | apply below_alloc | apply pw_below_drewN | apply below_drew1) | exact HB.out)⟩⟩
 case rest =>
  clear HC3
  try clear c2
  try clear p2
  try clear c4
  try clear c4b0
  obtain ⟨kq, x21_2, rfl, HA, HJ2, HB⟩ := hcut
  cases kq with
  | zero => exact absurd HA.out (by simp [culletref15_Locator.j0])
  | succ kj2 =>
   have H := HA.out
   clear HA
   simp only [culletref15_Locator.j0] at H
   by_cases c5 : x21_2 = true
   ·subst c5
    have H1 : (some (([] : List Int), 7)) = some (r1, r2) := by rw [if_pos rfl] at H; exact H
    clear H
    have H := H1
    clear H1
    simp only [Option.some.injEq, Prod.mk.injEq] at H
    obtain ⟨rfl, rfl⟩ := H
    go_wp2
    go_ret2
    exact ⟨_, by first | rfl | (simp [errW_none, errW_some] <;> rfl) | (simp [*, errW_none, errW_some] <;> rfl), by first | exact Kd.R_nil _ _ _ _ _ | exact Kd.N_nil _ _ _ _ _ | exact Kd.V_nil _ _ _ _ _ | exact Kd.Q_nil _ _ _ _ _ | exact Kd.S_nil _ _ _ _ _, by repeat (first | (with_reducible first | exact HB.out | apply below_alloc | apply pw_below_drewN | apply below_drew1) | exact HB.out)⟩
   ·replace c5 := Bool.eq_false_iff.mpr c5
    subst c5
    have H1 : ((culletref15_Lost.f kj2 l0 a1).bind fun t166 => (if t166 = true then ((culletref15_Logs.f kj2 a1).bind fun bt167 => (if 0 ≤ (IntKind.u64.wrap (a1)) then (if (shl .i64 (l0.length : Int) (IntKind.u64.wrap (a1))) > 4194304 then (if 0 ≤ (bt167.1.length : Int) then (if ((bt167.1.length : Int) : Int).toNat ≤ 140737488355328 then (culletref15_Locator.l0 kj2 bt167.1 (List.replicate ((bt167.1.length : Int) : Int).toNat 0) l0 (l0.length : Int) 0) else (none)) else (none)) else (if 0 ≤ (bt167.1.length : Int) then (if ((bt167.1.length : Int) : Int).toNat ≤ 35184372088832 then ((some (List.replicate ((bt167.1.length : Int) : Int).toNat 0 : List Int)).bind fun y180 => (culletref15_Locator.l1 kj2 l0 bt167.1 y180 (y180.length : Int) 0)) else (none)) else (none))) else (none))) else (some (([] : List Int), 31)))) = some (r1, r2) := by rw [if_neg (show ¬ (false = true) by decide)] at H; exact H
    clear H
    have H := H1
    clear H1
    replace H := Option.bind_eq_some_iff.mp H
    obtain ⟨t166, A60, H⟩ := H
    replace H : (if t166 = true then ((culletref15_Logs.f kj2 a1).bind fun bt167 => (if 0 ≤ (IntKind.u64.wrap (a1)) then (if (shl .i64 (l0.length : Int) (IntKind.u64.wrap (a1))) > 4194304 then (if 0 ≤ (bt167.1.length : Int) then (if ((bt167.1.length : Int) : Int).toNat ≤ 140737488355328 then (culletref15_Locator.l0 kj2 bt167.1 (List.replicate ((bt167.1.length : Int) : Int).toNat 0) l0 (l0.length : Int) 0) else (none)) else (none)) else (if 0 ≤ (bt167.1.length : Int) then (if ((bt167.1.length : Int) : Int).toNat ≤ 35184372088832 then ((some (List.replicate ((bt167.1.length : Int) : Int).toNat 0 : List Int)).bind fun y180 => (culletref15_Locator.l1 kj2 l0 bt167.1 y180 (y180.length : Int) 0)) else (none)) else (none))) else (none))) else (some (([] : List Int), 31))) = some (r1, r2) := H
    have A6 := Aside0.mk A60
    clear A60
    by_cases c7 : t166 = true
    ·subst c7
     have H1 : ((culletref15_Logs.f kj2 a1).bind fun bt167 => (if 0 ≤ (IntKind.u64.wrap (a1)) then (if (shl .i64 (l0.length : Int) (IntKind.u64.wrap (a1))) > 4194304 then (if 0 ≤ (bt167.1.length : Int) then (if ((bt167.1.length : Int) : Int).toNat ≤ 140737488355328 then (culletref15_Locator.l0 kj2 bt167.1 (List.replicate ((bt167.1.length : Int) : Int).toNat 0) l0 (l0.length : Int) 0) else (none)) else (none)) else (if 0 ≤ (bt167.1.length : Int) then (if ((bt167.1.length : Int) : Int).toNat ≤ 35184372088832 then ((some (List.replicate ((bt167.1.length : Int) : Int).toNat 0 : List Int)).bind fun y180 => (culletref15_Locator.l1 kj2 l0 bt167.1 y180 (y180.length : Int) 0)) else (none)) else (none))) else (none))) = some (r1, r2) := by rw [if_pos rfl] at H; exact H
     clear H
     have H := H1
     clear H1
     replace H := Option.bind_eq_some_iff.mp H
     obtain ⟨⟨t167, t168⟩, A80, H⟩ := H
     replace H : (if 0 ≤ (IntKind.u64.wrap (a1)) then (if (shl .i64 (l0.length : Int) (IntKind.u64.wrap (a1))) > 4194304 then (if 0 ≤ (t167.length : Int) then (if ((t167.length : Int) : Int).toNat ≤ 140737488355328 then (culletref15_Locator.l0 kj2 t167 (List.replicate ((t167.length : Int) : Int).toNat 0) l0 (l0.length : Int) 0) else (none)) else (none)) else (if 0 ≤ (t167.length : Int) then (if ((t167.length : Int) : Int).toNat ≤ 35184372088832 then ((some (List.replicate ((t167.length : Int) : Int).toNat 0 : List Int)).bind fun y180 => (culletref15_Locator.l1 kj2 l0 t167 y180 (y180.length : Int) 0)) else (none)) else (none))) else (none)) = some (r1, r2) := H
     have A8 := Aside0.mk A80
     clear A80
     obtain ⟨ji9, hji9⟩ : ∃ j_ : Int, (IntKind.u64.wrap (a1)) = j_ := ⟨_, rfl⟩
     replace H : (if 0 ≤ (ji9) then (if (shl .i64 (l0.length : Int) (ji9)) > 4194304 then (if 0 ≤ (t167.length : Int) then (if ((t167.length : Int) : Int).toNat ≤ 140737488355328 then (culletref15_Locator.l0 kj2 t167 (List.replicate ((t167.length : Int) : Int).toNat 0) l0 (l0.length : Int) 0) else (none)) else (none)) else (if 0 ≤ (t167.length : Int) then (if ((t167.length : Int) : Int).toNat ≤ 35184372088832 then ((some (List.replicate ((t167.length : Int) : Int).toNat 0 : List Int)).bind fun y180 => (culletref15_Locator.l1 kj2 l0 t167 y180 (y180.length : Int) 0)) else (none)) else (none))) else (none)) = some (r1, r2) := by first | (rw [hji9] at H; exact H) | (simp only [hji9] at H ⊢; exact H)
     (try rw [hji9] at A6)
     (try rw [hji9] at A8)
     by_cases c10 : 0 ≤ (ji9)
     ·rw [if_pos c10] at H
      have c10b0 := eq_true c10
      have c10b1 : decide (0 ≤ (ji9)) = true := decide_eq_true c10
      clear c10
      obtain ⟨ji11, hji11⟩ : ∃ j_ : Int, (shl .i64 (l0.length : Int) (ji9)) = j_ := ⟨_, rfl⟩
      replace H : (if (ji11) > 4194304 then (if 0 ≤ (t167.length : Int) then (if ((t167.length : Int) : Int).toNat ≤ 140737488355328 then (culletref15_Locator.l0 kj2 t167 (List.replicate ((t167.length : Int) : Int).toNat 0) l0 (l0.length : Int) 0) else (none)) else (none)) else (if 0 ≤ (t167.length : Int) then (if ((t167.length : Int) : Int).toNat ≤ 35184372088832 then ((some (List.replicate ((t167.length : Int) : Int).toNat 0 : List Int)).bind fun y180 => (culletref15_Locator.l1 kj2 l0 t167 y180 (y180.length : Int) 0)) else (none)) else (none))) = some (r1, r2) := by first | (rw [hji11] at H; exact H) | (simp only [hji11] at H ⊢; exact H)
      (try rw [hji11] at A6)
      (try rw [hji11] at A8)
      have hji11_ : (IntKind.i64.wrap ((l0.length : Int) * 2 ^ min (ji9).toNat 64)) = ji11 := hji11
      have hji11z : (ji9) ≤ 64 → (IntKind.i64.wrap ((l0.length : Int) * 2 ^ (ji9).toNat)) = ji11 := shl_small hji11
      have hji11y : (wrap64 ((l0.length : Int) * 2 ^ min (ji9).toNat 64)) = ji11 := (i64_w _).symm.trans hji11_
      have hji11x : (ji9) ≤ 64 → (wrap64 ((l0.length : Int) * 2 ^ (ji9).toNat)) = ji11 := fun h_ => (i64_w _).symm.trans (hji11z h_)
      by_cases c12 : (ji11) > 4194304
      ·rw [if_pos c12] at H
       have c12b0 : decide (4194304 < (ji11)) = true := decide_eq_true c12
       clear c12
       by_cases c13 : 0 ≤ (t167.length : Int)
       ·rw [if_pos c13] at H
        have c13b0 := eq_true c13
        have c13b1 : decide (0 ≤ (t167.length : Int)) = true := decide_eq_true c13
        clear c13
        by_cases c14 : ((t167.length : Int) : Int).toNat ≤ 140737488355328
        ·rw [if_pos c14] at H
         have c14b0 := eq_true c14
         have c14b1 : decide (((t167.length : Int) : Int).toNat ≤ 140737488355328) = true := decide_eq_true c14
         clear c14
         obtain ⟨y171, hy171⟩ : ∃ y_ : List Int, y_ = (List.replicate ((t167.length : Int) : Int).toNat 0) := ⟨_, rfl⟩
         replace H : (culletref15_Locator.l0 kj2 t167 y171 l0 (l0.length : Int) 0) = some (r1, r2) := by first | (rw [hy171]; with_reducible exact H) | (have H2_ := (Option.bind_some _ _).symm.trans H; rw [hy171]; with_reducible exact H2_) | (have H2_ := (Option.bind_some _ _).symm.trans H; with_reducible exact H2_) | with_reducible exact H | (rw [hy171]; exact H) | exact H
         have Ny171 := Aside0.mk hy171
         clear hy171
         have H' := Aside0.mk H
         clear H
         go_wp2_with (first | ((with_reducible refine gate_callee (f := 50) rfl ?_); refine goesL_ (some 24) rfl rfl Try.func50 (by kernel_rfl) rfl #[.slice A0 l0.length c0, .int .i64 a1] rfl (by (try simp only [List.map_toArray, List.map_cons, List.map_nil]); first | done | rfl | (simp only [tb_wrap8]; done) | (simp only [tb_wrap8]; rfl) | (simp only [List.length_drop, List.length_take]; rfl)) ?_; (with_reducible refine (culletref15_Lost.calls kj2 _ _ l0 a1 true _ ?side1 ?side2 A6.out).mono ?_); (case side1 => repeat (first | exact (Kd.C_below HR0.out HB.out) | (with_reducible refine Kd.C_alloc ?_ _) | (with_reducible refine Kd.C_drewN ?_ _) | (with_reducible refine Kd.C_drew ?_))); (case side2 => exact HC0.out); rintro e w' ⟨rfl, ⟨nd, rfl⟩⟩; refine ⟨_, rfl, ?_⟩) | ((with_reducible refine gate_callee (f := 21) rfl ?_); refine goesL_ (some 28) rfl rfl Try.func21 (by kernel_rfl) rfl #[.int .i64 a1] rfl (by (try simp only [List.map_toArray, List.map_cons, List.map_nil]); first | done | rfl | (simp only [tb_wrap8]; done) | (simp only [tb_wrap8]; rfl) | (simp only [List.length_drop, List.length_take]; rfl)) ?_; (with_reducible refine (culletref15_Logs.calls kj2 a1 t167 t168 _ A8.out).mono ?_); rintro e w15 ⟨v169, rfl, ho0, hb⟩; refine ⟨_, rfl, ?_⟩; have n0_ := Aside0.mk (Kd.R_lower ho0 (below_size (by repeat (first | (with_reducible first | exact HB.out | apply below_alloc | apply pw_below_drewN | apply below_drew1) | exact HB.out)))); have n1_ := Aside0.mk (below_step (by repeat (first | (with_reducible first | exact HB.out | apply below_alloc | apply pw_below_drewN | apply below_drew1) | exact HB.out)) hb); clear HB; have HO170 := n0_; have HB := n1_; clear n0_ n1_; (try clear hb); (try clear hb2); (try clear hk); (try clear hi); (try clear ho0); obtain ⟨Ao16, co16, eo16⟩ := Kd.R_slice HO170.out; subst eo16) | ((with_reducible refine gate_dst (N := 39) rfl ?_); refine Kd.R_make (Kd.int .u16) _ 33 rfl (N := 39) rfl 22 _ _ rfl (t167.length : Int) rfl rfl Try.underlying22 (.int .u16 0) 2 info33 rfl (by decide) (by omega) 0 (ok := fun _ => True) (okp := fun _ => True) rfl (fun _ hk => hk) trivial (of_decide_eq_true (by first | (with_reducible assumption) | assumption)) (Nat.le_trans (Nat.mul_le_mul_right _ (of_decide_eq_true (by first | (with_reducible assumption) | assumption) : (t167.length : Int).toNat ≤ 140737488355328)) (by omega)) (Below.refl _ _) (Nat.le_refl _) ?_; intro v172 w17 ho18 hb hg_ hnew_; clear hg_ hnew_; (first | rw [← Ny171.out] at ho18 | (simp only [Int.reduceToNat] at ho18; rw [← Ny171.out] at ho18)); have n0_ := Aside0.mk (Kd.R_elder' (by (with_reducible repeat (first | apply Kd.R_alloc | apply Kd.R_drewN | apply Kd.R_drew)); exact HO170.out) (Kd.R_base ho18) hb); have n1_ := Aside0.mk (Kd.R_lower (Kd.R_new' ho18 (Kd.R_lt (by (with_reducible repeat (first | apply Kd.R_alloc | apply Kd.R_drewN | apply Kd.R_drew)); exact HO170.out))) (below_size (by repeat (first | (with_reducible first | exact HB.out | apply below_alloc | apply pw_below_drewN | apply below_drew1) | exact HB.out)))); have n2_ := Aside0.mk (below_step (by repeat (first | (with_reducible first | exact HB.out | apply below_alloc | apply pw_below_drewN | apply below_drew1) | exact HB.out)) hb); clear HO170; clear HB; have HO170 := n0_; have HO173 := n1_; have HB := n2_; clear n0_ n1_ n2_; clear hb ho18))
         go_loopg [42] kj2 (fun kq v42 w' => ∃ (x8_2 : List Int) (x42_2 : Int), v42 = .int .i64 x42_2 ∧ Aside0 (culletref15_Locator.l0 kq t167 x8_2 l0 (l0.length : Int) x42_2 = some (r1, r2)) ∧ Aside0 (kq ≤ kj2) ∧ Aside0 (Kd.R (Kd.int .u16) 33 w' w.heap.size (fun k_ => some k_ ≠ (v172 : Value).ownBlock) (.slice Ao16 t167.length co16) t167) ∧ Aside0 (Kd.R (Kd.int .u16) 33 w' w.heap.size (fun k_ => some k_ ≠ ((.slice Ao16 t167.length co16) : Value).ownBlock) v172 x8_2) ∧ Aside0 (Below w.heap.size w w'))
         case atStart => exact ⟨(y171), (0), (by first | rfl | (simp; done) | (simp [*]; done)), H', ⟨Nat.le_refl _⟩, ⟨by (with_reducible repeat (first | apply Kd.R_alloc | apply Kd.R_drewN | apply Kd.R_drew)); exact Kd.R_mono HO170.out (fun _ hk => hk.2)⟩, ⟨by (with_reducible repeat (first | apply Kd.R_alloc | apply Kd.R_drewN | apply Kd.R_drew)); exact Kd.R_mono HO173.out (fun _ hk => hk.2)⟩, ⟨by repeat (first | (with_reducible first | exact HB.out | apply below_alloc | apply pw_below_drewN | apply below_drew1) | exact HB.out)⟩⟩
         case round =>
          clear H'
          try clear c1
          try clear c2
          try clear p2
          try clear c4
          try clear c4b0
          try clear c5
          try clear p6
          try clear c7
          try clear p8
          try clear c10
          try clear c10b0
          try clear c10b1
          try clear c12
          try clear c12b0
          try clear c13
          try clear c13b0
          try clear c13b1
          try clear c14
          try clear c14b0
          try clear c14b1
          try clear p2
          obtain ⟨x8_2, x42_2, rfl, HA, HK2, HO_6, HO_8, HB⟩ := hrel
          cases gk with
          | zero => exact absurd HA.out (by simp [culletref15_Locator.l0])
          | succ k2 =>
           have H := HA.out
           clear HA
           simp only [culletref15_Locator.l0] at H
           by_cases c19 : x42_2 < (l0.length : Int)
           ·rw [if_pos c19] at H
            have c19b0 : decide (x42_2 < (l0.length : Int)) = true := decide_eq_true c19
            clear c19
            by_cases c20 : 0 ≤ x42_2
            ·rw [if_pos c20] at H
             have c20b0 : decide (0 ≤ x42_2) = true := decide_eq_true c20
             clear c20
             by_cases c21 : x42_2 < (l0.length : Int)
             ·rw [if_pos c21] at H
              have c21b0 : decide (x42_2 < (l0.length : Int)) = true := decide_eq_true c21
              clear c21
              by_cases c22 : 0 ≤ (rd l0 x42_2)
              ·rw [if_pos c22] at H
               have c22b0 : decide (0 ≤ (rd l0 x42_2)) = true := decide_eq_true c22
               clear c22
               by_cases c23 : (rd l0 x42_2) < (x8_2.length : Int)
               ·rw [if_pos c23] at H
                have c23b0 : decide ((rd l0 x42_2) < (x8_2.length : Int)) = true := decide_eq_true c23
                clear c23
                obtain ⟨y175, hy175⟩ : ∃ y_ : List Int, y_ = (x8_2.set ((rd l0 x42_2) : Int).toNat 1) := ⟨_, rfl⟩
                replace H : (culletref15_Locator.l0 k2 t167 y175 l0 (l0.length : Int) (wrap64 (x42_2 + 1))) = some (r1, r2) := by first | (rw [hy175]; with_reducible exact H) | (have H2_ := (Option.bind_some _ _).symm.trans H; rw [hy175]; with_reducible exact H2_) | (have H2_ := (Option.bind_some _ _).symm.trans H; with_reducible exact H2_) | with_reducible exact H | (rw [hy175]; exact H) | exact H
                have Ny175 := Aside0.mk hy175
                clear hy175
                have H' := Aside0.mk H
                clear H
                have p174 : 0 ≤ (x42_2 : Int) := of_decide_eq_true (by first | (with_reducible assumption) | assumption)
                have q174 : x42_2 < (l0.length : Int) := of_decide_eq_true (by first | (with_reducible assumption) | assumption)
                obtain ⟨ad174, e174, hx174_0⟩ := Kd.at_int HR0.out x42_2 p174 q174
                cases e174
                replace hx174_0 := (HB.out.cell (World.block_lt_of_cell? w _ hx174_0)).trans hx174_0
                replace p174 := eq_true p174
                replace q174 := eq_true q174
                have p24 : 0 ≤ ((rd l0 x42_2) : Int) := of_decide_eq_true (by first | (with_reducible assumption) | assumption)
                have q24 : ((rd l0 x42_2) : Int) < ((x8_2.length : Int) : Int) := of_decide_eq_true (by first | (with_reducible assumption) | assumption)
                obtain ⟨go24, co24, eo24, gb24, gl24, cl24, HG24⟩ := Kd.R_form HO_8.out (by omega)
                (first | cases eo24 | (injection eo24 with ea_ en_ ec_; (first | subst ea_ | (injection ea_ with ea_; subst ea_)); subst ec_; clear en_))
                have GB24 := Aside0.mk gb24
                have GG24 := Aside0.mk HG24
                clear gb24 gl24 HG24
                obtain ⟨hx24_0, hf24_0⟩ := Kd.R_celln 0 HO_8.out ((rd l0 x42_2) : Int) p24 q24
                replace p24 := eq_true p24
                replace q24 := eq_true q24
                have HP25 := Kd.R_putg HO_8.out ((rd l0 x42_2) : Int) 1
                go_wp2_with (first | ((with_reducible refine gate_store (t := 33) (p := 48) rfl ?_); refine store_event (t := 33) (p := 48) (v := ?vo_w26) (w1 := (wr.setCell ⟨go24, ((rd l0 x42_2) : Int).toNat, none⟩ (.int .u16 1))) ?hg ?ho ?hn ?hr ?_; (case ho => rfl); (case hg => rfl); (case hn => rfl); (case hr => first | (go_simp; done) | (go_simp; rfl)); intro w26 hw; have hg : wr.grownBy w26 (some go24) := (by rw [hw]; exact HP25.2); have hp_ : Kd.R (Kd.int .u16) 33 w26 w.heap.size (fun k_ => some k_ ≠ (.slice Ao16 t167.length co16 : Value).ownBlock) (.slice (some ⟨go24, 0, none⟩) x8_2.length co24) y175 := (by rw [hw, Ny175.out]; exact HP25.1); clear HP25; have n0_ := Aside0.mk (Kd.R_after (v := (.slice (some ⟨go24, 0, none⟩) x8_2.length co24)) (v1 := (.slice (some ⟨go24, 0, none⟩) x8_2.length co24)) (ok := (fun _ => True)) (by (with_reducible repeat (first | apply Kd.R_alloc | apply Kd.R_drewN | apply Kd.R_drew)); exact Kd.R_mono HO_6.out (fun _ hk => ⟨trivial, hk⟩)) hg (.inl rfl)); have n1_ := Aside0.mk (hp_); have n2_ := Aside0.mk ((by rw [hw]; exact below_set (HB.out) GB24.out : Below w.heap.size w w26)); clear HO_6; clear HO_8; clear HB; have HO_6 := n0_; have HO_8 := n1_; have HB := n2_; clear n0_ n1_ n2_; clear hg hw hp_))
                go_roundg k2
                case measure => have := HJ2.out; have := HK2.out; omega
                case rel => exact ⟨(y175), (wrap64 (x42_2 + 1)), (by first | rfl | (simp; done) | (simp [*]; done)), H', ⟨by have := HJ2.out; have := HK2.out; omega⟩, ⟨by (with_reducible repeat (first | apply Kd.R_alloc | apply Kd.R_drewN | apply Kd.R_drew)); exact Kd.R_mono HO_6.out (fun _ hk => hk.2)⟩, ⟨by (with_reducible repeat (first | apply Kd.R_alloc | apply Kd.R_drewN | apply Kd.R_drew)); exact HO_8.out⟩, ⟨by repeat (first | (with_reducible first | exact HB.out | apply below_alloc | apply pw_below_drewN | apply below_drew1) | exact HB.out)⟩⟩
               ·rw [if_neg c23] at H
                exact absurd H (by simp)
              ·rw [if_neg c22] at H
               exact absurd H (by simp)
             ·rw [if_neg c21] at H
              exact absurd H (by simp)
            ·rw [if_neg c20] at H
             exact absurd H (by simp)
           ·rw [if_neg c19] at H
            have c19b0 : decide (x42_2 < (l0.length : Int)) = false := decide_eq_false c19
            clear c19
            replace H := Option.bind_eq_some_iff.mp H
            obtain ⟨⟨t176, t177⟩, A270, H⟩ := H
            replace H : (some (t176, t177)) = some (r1, r2) := H
            have A27 := Aside0.mk A270
            clear A270
            simp only [Option.some.injEq, Prod.mk.injEq] at H
            obtain ⟨rfl, rfl⟩ := H
            obtain ⟨Ao28, co28, eo28⟩ := Kd.R_slice HO_8.out
            subst eo28
            go_wp2_with (first | ((with_reducible refine gate_callee (f := 29) rfl ?_); refine goesL_ (some 52) rfl rfl Try.func29 (by kernel_rfl) rfl #[.slice Ao28 x8_2.length co28, .slice Ao16 t167.length co16] rfl (by (try simp only [List.map_toArray, List.map_cons, List.map_nil]); first | done | rfl | (simp only [tb_wrap8]; done) | (simp only [tb_wrap8]; rfl) | (simp only [List.length_drop, List.length_take]; rfl)) ?_; (with_reducible refine (culletref15_Convolve.calls k2 _ _ x8_2 _ _ t167 t176 t177 _ ?side1 ?side2 ?side3 ?side4 A27.out).mono ?_); (case side1 => repeat (first | exact (Kd.R_reads' HO_8.out).2.2 | (with_reducible refine Kd.C_alloc ?_ _) | (with_reducible refine Kd.C_drewN ?_ _) | (with_reducible refine Kd.C_drew ?_))); (case side2 => exact (Kd.R_reads' HO_8.out).2.1); (case side3 => repeat (first | exact (Kd.R_reads' HO_6.out).2.2 | (with_reducible refine Kd.C_alloc ?_ _) | (with_reducible refine Kd.C_drewN ?_ _) | (with_reducible refine Kd.C_drew ?_))); (case side4 => exact (Kd.R_reads' HO_6.out).2.1); rintro e w29 ⟨v178, rfl, ho0, hb⟩; refine ⟨_, rfl, ?_⟩; have n0_ := Aside0.mk (Kd.R_elder' (by (with_reducible repeat (first | apply Kd.R_alloc | apply Kd.R_drewN | apply Kd.R_drew)); exact HO_6.out) (Kd.R_base ho0) hb); have n1_ := Aside0.mk (Kd.R_elder' (by (with_reducible repeat (first | apply Kd.R_alloc | apply Kd.R_drewN | apply Kd.R_drew)); exact HO_8.out) (Kd.R_base ho0) hb); have n2_ := Aside0.mk (Kd.R_lower (Kd.R_new' (Kd.R_new' ho0 (Kd.R_lt (by (with_reducible repeat (first | apply Kd.R_alloc | apply Kd.R_drewN | apply Kd.R_drew)); exact HO_6.out))) (Kd.R_lt (by (with_reducible repeat (first | apply Kd.R_alloc | apply Kd.R_drewN | apply Kd.R_drew)); exact HO_8.out))) (below_size (by repeat (first | (with_reducible first | exact HB.out | apply below_alloc | apply pw_below_drewN | apply below_drew1) | exact HB.out)))); have n3_ := Aside0.mk (below_step (by repeat (first | (with_reducible first | exact HB.out | apply below_alloc | apply pw_below_drewN | apply below_drew1) | exact HB.out)) hb); clear HO_6; clear HO_8; clear HB; have HO_6 := n0_; have HO_8 := n1_; have HO179 := n2_; have HB := n3_; clear n0_ n1_ n2_ n3_; (try clear hb); (try clear hb2); (try clear hk); (try clear hi); (try clear ho0)))
            go_ret2
            exact ⟨_, by first | rfl | (simp [errW_none, errW_some] <;> rfl) | (simp only [← hji9, ← hji11]; first | rfl | (simp [errW_none, errW_some] <;> rfl)) | (simp [*, errW_none, errW_some] <;> rfl), by (with_reducible repeat (first | apply Kd.R_alloc | apply Kd.R_drewN | apply Kd.R_drew)); exact Kd.R_mono HO179.out (fun _ hk => trivial), by repeat (first | (with_reducible first | exact HB.out | apply below_alloc | apply pw_below_drewN | apply below_drew1) | exact HB.out)⟩
        ·rw [if_neg c14] at H
         exact absurd H (by simp)
       ·rw [if_neg c13] at H
        exact absurd H (by simp)
      ·rw [if_neg c12] at H
       have c12b0 : decide (4194304 < (ji11)) = false := decide_eq_false c12
       clear c12
       by_cases c30 : 0 ≤ (t167.length : Int)
       ·rw [if_pos c30] at H
        have c30b0 := eq_true c30
        have c30b1 : decide (0 ≤ (t167.length : Int)) = true := decide_eq_true c30
        clear c30
        by_cases c31 : ((t167.length : Int) : Int).toNat ≤ 35184372088832
        ·rw [if_pos c31] at H
         have c31b0 := eq_true c31
         have c31b1 : decide (((t167.length : Int) : Int).toNat ≤ 35184372088832) = true := decide_eq_true c31
         clear c31
         obtain ⟨y180, hy180⟩ : ∃ y_ : List Int, y_ = (List.replicate ((t167.length : Int) : Int).toNat 0) := ⟨_, rfl⟩
         replace H : (culletref15_Locator.l1 kj2 l0 t167 y180 (y180.length : Int) 0) = some (r1, r2) := by first | (rw [hy180]; with_reducible exact H) | (have H2_ := (Option.bind_some _ _).symm.trans H; rw [hy180]; with_reducible exact H2_) | (have H2_ := (Option.bind_some _ _).symm.trans H; with_reducible exact H2_) | with_reducible exact H | (rw [hy180]; exact H) | exact H
         have Ny180 := Aside0.mk hy180
         clear hy180
         have H' := Aside0.mk H
         clear H
         go_wp2_with (first | ((with_reducible refine gate_callee (f := 50) rfl ?_); refine goesL_ (some 24) rfl rfl Try.func50 (by kernel_rfl) rfl #[.slice A0 l0.length c0, .int .i64 a1] rfl (by (try simp only [List.map_toArray, List.map_cons, List.map_nil]); first | done | rfl | (simp only [tb_wrap8]; done) | (simp only [tb_wrap8]; rfl) | (simp only [List.length_drop, List.length_take]; rfl)) ?_; (with_reducible refine (culletref15_Lost.calls kj2 _ _ l0 a1 true _ ?side1 ?side2 A6.out).mono ?_); (case side1 => repeat (first | exact (Kd.C_below HR0.out HB.out) | (with_reducible refine Kd.C_alloc ?_ _) | (with_reducible refine Kd.C_drewN ?_ _) | (with_reducible refine Kd.C_drew ?_))); (case side2 => exact HC0.out); rintro e w' ⟨rfl, ⟨nd, rfl⟩⟩; refine ⟨_, rfl, ?_⟩) | ((with_reducible refine gate_callee (f := 21) rfl ?_); refine goesL_ (some 28) rfl rfl Try.func21 (by kernel_rfl) rfl #[.int .i64 a1] rfl (by (try simp only [List.map_toArray, List.map_cons, List.map_nil]); first | done | rfl | (simp only [tb_wrap8]; done) | (simp only [tb_wrap8]; rfl) | (simp only [List.length_drop, List.length_take]; rfl)) ?_; (with_reducible refine (culletref15_Logs.calls kj2 a1 t167 t168 _ A8.out).mono ?_); rintro e w32 ⟨v169, rfl, ho0, hb⟩; refine ⟨_, rfl, ?_⟩; have n0_ := Aside0.mk (Kd.R_lower ho0 (below_size (by repeat (first | (with_reducible first | exact HB.out | apply below_alloc | apply pw_below_drewN | apply below_drew1) | exact HB.out)))); have n1_ := Aside0.mk (below_step (by repeat (first | (with_reducible first | exact HB.out | apply below_alloc | apply pw_below_drewN | apply below_drew1) | exact HB.out)) hb); clear HB; have HO170 := n0_; have HB := n1_; clear n0_ n1_; (try clear hb); (try clear hb2); (try clear hk); (try clear hi); (try clear ho0); obtain ⟨Ao33, co33, eo33⟩ := Kd.R_slice HO170.out; subst eo33) | ((with_reducible refine gate_dst (N := 57) rfl ?_); refine Kd.R_make (Kd.int .i64) _ 3 rfl (N := 57) rfl 35 _ _ rfl (t167.length : Int) rfl rfl Try.underlying35 (.int .i64 0) 8 info3 rfl (by decide) (by omega) 0 (ok := fun _ => True) (okp := fun _ => True) rfl (fun _ hk => hk) trivial (of_decide_eq_true (by first | (with_reducible assumption) | assumption)) (Nat.le_trans (Nat.mul_le_mul_right _ (of_decide_eq_true (by first | (with_reducible assumption) | assumption) : (t167.length : Int).toNat ≤ 35184372088832)) (by omega)) (Below.refl _ _) (Nat.le_refl _) ?_; intro v181 w34 ho35 hb hg_ hnew_; clear hg_ hnew_; (first | rw [← Ny180.out] at ho35 | (simp only [Int.reduceToNat] at ho35; rw [← Ny180.out] at ho35)); have n0_ := Aside0.mk (Kd.R_below (by (with_reducible repeat (first | apply Kd.R_alloc | apply Kd.R_drewN | apply Kd.R_drew)); exact HO170.out) hb); have n1_ := Aside0.mk (Kd.R_lower ho35 (below_size (by repeat (first | (with_reducible first | exact HB.out | apply below_alloc | apply pw_below_drewN | apply below_drew1) | exact HB.out)))); have n2_ := Aside0.mk (below_step (by repeat (first | (with_reducible first | exact HB.out | apply below_alloc | apply pw_below_drewN | apply below_drew1) | exact HB.out)) hb); clear HO170; clear HB; have HO170 := n0_; have HO182 := n1_; have HB := n2_; clear n0_ n1_ n2_; clear hb ho35; obtain ⟨Ao36, co36, eo36⟩ := Kd.R_slice HO182.out; subst eo36))
         go_loopg [60] kj2 (fun kq v60 w' => ∃ (x11_2 : List Int) (x60_2 : Int), v60 = .int .i64 x60_2 ∧ Aside0 (culletref15_Locator.l1 kq l0 t167 x11_2 (y180.length : Int) x60_2 = some (r1, r2)) ∧ Aside0 (kq ≤ kj2) ∧ Aside0 (Kd.R (Kd.int .u16) 33 w' w.heap.size (fun _ => True) (.slice Ao33 t167.length co33) t167) ∧ Aside0 (Kd.R (Kd.int .i64) 3 w' w.heap.size (fun _ => True) (.slice Ao36 y180.length co36) x11_2) ∧ Aside0 (Below w.heap.size w w'))
         case atStart => exact ⟨(y180), (0), (by first | rfl | (simp; done) | (simp [*]; done)), H', ⟨Nat.le_refl _⟩, ⟨by (with_reducible repeat (first | apply Kd.R_alloc | apply Kd.R_drewN | apply Kd.R_drew)); exact HO170.out⟩, ⟨by (with_reducible repeat (first | apply Kd.R_alloc | apply Kd.R_drewN | apply Kd.R_drew)); exact HO182.out⟩, ⟨by repeat (first | (with_reducible first | exact HB.out | apply below_alloc | apply pw_below_drewN | apply below_drew1) | exact HB.out)⟩⟩
         case round =>
          clear H'
          try clear c1
          try clear p1
          try clear q1
          try clear hx1
          try clear c2
          try clear p2
          try clear q2
          try clear hx2
          try clear hf2
          try clear c3
          try clear c4
          try clear c4b0
          try clear c5
          try clear p6
          try clear c7
          try clear p8
          try clear c10
          try clear c10b0
          try clear c10b1
          try clear c12
          try clear c12b0
          try clear c13
          try clear c13b0
          try clear c13b1
          try clear c14
          try clear c14b0
          try clear c14b1
          try clear p17
          try clear q17
          try clear hx17
          try clear c19
          try clear c19b0
          try clear c20
          try clear c20b0
          try clear c21
          try clear c21b0
          try clear c22
          try clear c22b0
          try clear c23
          try clear c23b0
          try clear c24
          try clear p24
          try clear q24
          try clear hx24
          try clear hf24
          try clear c29
          try clear c30
          try clear c30b0
          try clear c30b1
          try clear c31
          try clear c31b0
          try clear c31b1
          try clear hx174_0
          try clear hx24_0
          try clear p174
          try clear p2
          try clear p24
          try clear p6
          try clear p8
          try clear q174
          try clear q24
          obtain ⟨x11_2, x60_2, rfl, HA, HK2, HO_6, HO_11, HB⟩ := hrel
          have hl11_2 := (Kd.R_reads' HO_11.out).1
          rw [hl11_2] at HO_11
          (try simp only [hl11_2])
          (try simp only [hl11_2] at HO_6)
          cases gk with
          | zero => exact absurd HA.out (by simp [culletref15_Locator.l1])
          | succ k2 =>
           have H := HA.out
           clear HA
           simp only [culletref15_Locator.l1] at H
           by_cases c37 : x60_2 < (y180.length : Int)
           ·rw [if_pos c37] at H
            have c37b0 : decide (x60_2 < (y180.length : Int)) = true := decide_eq_true c37
            (try simp only [hl11_2] at c37b0)
            clear c37
            have H' := Aside0.mk H
            clear H
            go_wp2
            go_loopg [13, 65] k2 (fun kq v13 v65 w' => ∃ (x13_3 : Int) (x65_3 : Int), v13 = .int .i64 x13_3 ∧ v65 = .int .i64 x65_3 ∧ Aside0 (culletref15_Locator.l2 kq l0 t167 x11_2 x60_2 x13_3 (y180.length : Int) x60_2 l0 (l0.length : Int) x65_3 = some (r1, r2)) ∧ Aside0 (kq ≤ k2) ∧ Aside0 (Kd.R (Kd.int .u16) 33 w' w.heap.size (fun _ => True) (.slice Ao33 t167.length co33) t167) ∧ Aside0 (Kd.R (Kd.int .i64) 3 w' w.heap.size (fun _ => True) (.slice Ao36 x11_2.length co36) x11_2) ∧ Aside0 (Below w.heap.size w w'))
            case atStart => exact ⟨(0), (0), (by first | rfl | (simp; done) | (simp [*]; done)), (by first | rfl | (simp; done) | (simp [*]; done)), H', ⟨Nat.le_refl _⟩, ⟨by (try simp only [hl11_2]); (with_reducible repeat (first | apply Kd.R_alloc | apply Kd.R_drewN | apply Kd.R_drew)); exact HO_6.out⟩, ⟨by (try simp only [hl11_2]); (with_reducible repeat (first | apply Kd.R_alloc | apply Kd.R_drewN | apply Kd.R_drew)); exact HO_11.out⟩, ⟨by repeat (first | (with_reducible first | exact HB.out | apply below_alloc | apply pw_below_drewN | apply below_drew1) | exact HB.out)⟩⟩
            case round =>
             clear H'
             try clear c1
             try clear p1
             try clear q1
             try clear hx1
             try clear c2
             try clear p2
             try clear q2
             try clear hx2
             try clear hf2
             try clear c3
             try clear c4
             try clear c4b0
             try clear c5
             try clear p6
             try clear c7
             try clear p8
             try clear c10
             try clear c10b0
             try clear c10b1
             try clear c12
             try clear c12b0
             try clear c13
             try clear c13b0
             try clear c13b1
             try clear c14
             try clear c14b0
             try clear c14b1
             try clear p17
             try clear q17
             try clear hx17
             try clear c19
             try clear c19b0
             try clear c20
             try clear c20b0
             try clear c21
             try clear c21b0
             try clear c22
             try clear c22b0
             try clear c23
             try clear c23b0
             try clear c24
             try clear p24
             try clear q24
             try clear hx24
             try clear hf24
             try clear c29
             try clear c30
             try clear c30b0
             try clear c30b1
             try clear c31
             try clear c31b0
             try clear c31b1
             try clear c37
             try clear c37b0
             try clear hx174_0
             try clear hx24_0
             try clear p1
             try clear p17
             try clear p174
             try clear p2
             try clear p24
             try clear p6
             try clear p8
             try clear q1
             try clear q17
             try clear q174
             try clear q2
             try clear q24
             obtain ⟨x13_3, x65_3, rfl, rfl, HA, HK3, HO_6, HO_11, HB⟩ := hrel
             cases gk with
             | zero => exact absurd HA.out (by simp [culletref15_Locator.l2])
             | succ k3 =>
              have H := HA.out
              clear HA
              simp only [culletref15_Locator.l2] at H
              by_cases c38 : x65_3 < (l0.length : Int)
              ·rw [if_pos c38] at H
               have c38b0 : decide (x65_3 < (l0.length : Int)) = true := decide_eq_true c38
               (try simp only [hl11_2] at c38b0)
               clear c38
               by_cases c39 : 0 ≤ x65_3
               ·rw [if_pos c39] at H
                have c39b0 : decide (0 ≤ x65_3) = true := decide_eq_true c39
                (try simp only [hl11_2] at c39b0)
                clear c39
                by_cases c40 : x65_3 < (l0.length : Int)
                ·rw [if_pos c40] at H
                 have c40b0 : decide (x65_3 < (l0.length : Int)) = true := decide_eq_true c40
                 (try simp only [hl11_2] at c40b0)
                 clear c40
                 by_cases c41 : 0 ≤ (Go.bits .xor .i64 x60_2 (rd l0 x65_3))
                 ·rw [if_pos c41] at H
                  have c41b0 : decide (0 ≤ (Go.bits .xor .i64 x60_2 (rd l0 x65_3))) = true := decide_eq_true c41
                  (try simp only [hl11_2] at c41b0)
                  clear c41
                  by_cases c42 : (Go.bits .xor .i64 x60_2 (rd l0 x65_3)) < (t167.length : Int)
                  ·rw [if_pos c42] at H
                   have c42b0 : decide ((Go.bits .xor .i64 x60_2 (rd l0 x65_3)) < (t167.length : Int)) = true := decide_eq_true c42
                   (try simp only [hl11_2] at c42b0)
                   clear c42
                   have H' := Aside0.mk H
                   clear H
                   have p186 : 0 ≤ (x65_3 : Int) := of_decide_eq_true (by first | (with_reducible assumption) | assumption)
                   have q186 : x65_3 < (l0.length : Int) := of_decide_eq_true (by first | (with_reducible assumption) | assumption)
                   obtain ⟨ad186, e186, hx186_0⟩ := Kd.at_int HR0.out x65_3 p186 q186
                   cases e186
                   replace hx186_0 := (HB.out.cell (World.block_lt_of_cell? w _ hx186_0)).trans hx186_0
                   replace p186 := eq_true p186
                   replace q186 := eq_true q186
                   have p187 : 0 ≤ ((Go.bits .xor .i64 x60_2 (rd l0 x65_3)) : Int) := of_decide_eq_true (by first | (with_reducible assumption) | assumption)
                   have q187 : (Go.bits .xor .i64 x60_2 (rd l0 x65_3)) < (t167.length : Int) := of_decide_eq_true (by first | (with_reducible assumption) | assumption)
                   obtain ⟨ad187, e187, hx187_0⟩ := Kd.at_int (Kd.R_reads' HO_6.out).2.2 (Go.bits .xor .i64 x60_2 (rd l0 x65_3)) p187 q187
                   cases e187
                   replace p187 := eq_true p187
                   replace q187 := eq_true q187
                   go_wp2
                   go_roundg k3
                   case measure => have := HJ2.out; have := HK2.out; have := HK3.out; omega
                   case rel => exact ⟨(wrap64 (x13_3 + (wrap64 (rd t167 (Go.bits .xor .i64 x60_2 (rd l0 x65_3)))))), (wrap64 (x65_3 + 1)), (by first | rfl | (simp; done) | (simp [*]; done)), (by first | rfl | (simp; done) | (simp [*]; done)), H', ⟨by have := HJ2.out; have := HK2.out; have := HK3.out; omega⟩, ⟨by (try simp only [hl11_2]); (with_reducible repeat (first | apply Kd.R_alloc | apply Kd.R_drewN | apply Kd.R_drew)); exact HO_6.out⟩, ⟨by (try simp only [hl11_2]); (with_reducible repeat (first | apply Kd.R_alloc | apply Kd.R_drewN | apply Kd.R_drew)); exact HO_11.out⟩, ⟨by repeat (first | (with_reducible first | exact HB.out | apply below_alloc | apply pw_below_drewN | apply below_drew1) | exact HB.out)⟩⟩
                  ·rw [if_neg c42] at H
                   exact absurd H (by simp)
                 ·rw [if_neg c41] at H
                  exact absurd H (by simp)
                ·rw [if_neg c40] at H
                 exact absurd H (by simp)
               ·rw [if_neg c39] at H
                exact absurd H (by simp)
              ·rw [if_neg c38] at H
               have c38b0 : decide (x65_3 < (l0.length : Int)) = false := decide_eq_false c38
               (try simp only [hl11_2] at c38b0)
               clear c38
               by_cases c43 : 0 ≤ x60_2
               ·rw [if_pos c43] at H
                have c43b0 : decide (0 ≤ x60_2) = true := decide_eq_true c43
                (try simp only [hl11_2] at c43b0)
                clear c43
                by_cases c44 : x60_2 < (x11_2.length : Int)
                ·rw [if_pos c44] at H
                 have c44b0 : decide (x60_2 < (x11_2.length : Int)) = true := decide_eq_true c44
                 (try simp only [hl11_2] at c44b0)
                 clear c44
                 obtain ⟨y188, hy188⟩ : ∃ y_ : List Int, y_ = (x11_2.set (x60_2 : Int).toNat x13_3) := ⟨_, rfl⟩
                 replace H : (culletref15_Locator.l1 k3 l0 t167 y188 (y180.length : Int) (wrap64 (x60_2 + 1))) = some (r1, r2) := by first | (rw [hy188]; with_reducible exact H) | (have H2_ := (Option.bind_some _ _).symm.trans H; rw [hy188]; with_reducible exact H2_) | (have H2_ := (Option.bind_some _ _).symm.trans H; with_reducible exact H2_) | with_reducible exact H | (rw [hy188]; exact H) | exact H
                 have Ny188 := Aside0.mk hy188
                 clear hy188
                 have H' := Aside0.mk H
                 clear H
                 have p45 : 0 ≤ (x60_2 : Int) := of_decide_eq_true (by first | (with_reducible assumption) | assumption)
                 have q45 : (x60_2 : Int) < ((x11_2.length : Int) : Int) := of_decide_eq_true (by first | (with_reducible assumption) | assumption)
                 obtain ⟨go45, co45, eo45, gb45, gl45, cl45, HG45⟩ := Kd.R_form HO_11.out (by omega)
                 (first | cases eo45 | (injection eo45 with ea_ en_ ec_; (first | subst ea_ | (injection ea_ with ea_; subst ea_)); subst ec_; clear en_))
                 have GB45 := Aside0.mk gb45
                 have GG45 := Aside0.mk HG45
                 clear gb45 gl45 HG45
                 obtain ⟨hx45_0, hf45_0⟩ := Kd.R_celln 0 HO_11.out (x60_2 : Int) p45 q45
                 replace p45 := eq_true p45
                 replace q45 := eq_true q45
                 have HP46 := Kd.R_putg HO_11.out (x60_2 : Int) x13_3
                 go_wp2_with (first | ((with_reducible refine gate_store (t := 3) (p := 82) rfl ?_); refine store_event (t := 3) (p := 82) (v := ?vo_w47) (w1 := (wr.setCell ⟨go45, (x60_2 : Int).toNat, none⟩ (.int .i64 x13_3))) ?hg ?ho ?hn ?hr ?_; (case ho => rfl); (case hg => rfl); (case hn => rfl); (case hr => first | (go_simp; done) | (go_simp; rfl)); intro w47 hw; have hg : wr.grownBy w47 (some go45) := (by rw [hw]; exact HP46.2); have hp_ : Kd.R (Kd.int .i64) 3 w47 w.heap.size (fun _ => True) (.slice (some ⟨go45, 0, none⟩) x11_2.length co36) y188 := (by rw [hw, Ny188.out]; exact HP46.1); clear HP46; have n0_ := Aside0.mk (Kd.R_over' (v := (.slice (some ⟨go45, 0, none⟩) x11_2.length co36)) (by (with_reducible repeat (first | apply Kd.R_alloc | apply Kd.R_drewN | apply Kd.R_drew)); exact HO_6.out) (Kd.R_typed HO_11.out) (by decide) hg); have n1_ := Aside0.mk (hp_); have n2_ := Aside0.mk ((by rw [hw]; exact below_set (HB.out) GB45.out : Below w.heap.size w w47)); clear HO_6; clear HO_11; clear HB; have HO_6 := n0_; have HO_11 := n1_; have HB := n2_; clear n0_ n1_ n2_; clear hg hw hp_))
                 (try simp only [← hl11_2])
                 go_roundg k3
                 case measure => have := HJ2.out; have := HK2.out; have := HK3.out; omega
                 case rel => exact ⟨(y188), (wrap64 (x60_2 + 1)), (by first | rfl | (simp; done) | (simp [*]; done)), H', ⟨by have := HJ2.out; have := HK2.out; have := HK3.out; omega⟩, ⟨by (try simp only [hl11_2]); (with_reducible repeat (first | apply Kd.R_alloc | apply Kd.R_drewN | apply Kd.R_drew)); exact HO_6.out⟩, ⟨by (try simp only [hl11_2]); (with_reducible repeat (first | apply Kd.R_alloc | apply Kd.R_drewN | apply Kd.R_drew)); exact HO_11.out⟩, ⟨by repeat (first | (with_reducible first | exact HB.out | apply below_alloc | apply pw_below_drewN | apply below_drew1) | exact HB.out)⟩⟩
                ·rw [if_neg c44] at H
                 exact absurd H (by simp)
               ·rw [if_neg c43] at H
                exact absurd H (by simp)
           ·rw [if_neg c37] at H
            have c37b0 : decide (x60_2 < (y180.length : Int)) = false := decide_eq_false c37
            (try simp only [hl11_2] at c37b0)
            clear c37
            replace H := Option.bind_eq_some_iff.mp H
            obtain ⟨t183, A480, H⟩ := H
            replace H : (some (t183, 0)) = some (r1, r2) := H
            have A48 := Aside0.mk A480
            clear A480
            simp only [Option.some.injEq, Prod.mk.injEq] at H
            obtain ⟨rfl, rfl⟩ := H
            go_wp2_with (first | ((with_reducible refine gate_callee (f := 40) rfl ?_); refine goesL_ (some 85) rfl rfl Try.func40 (by kernel_rfl) rfl #[.slice Ao36 x11_2.length co36] rfl (by (try simp only [List.map_toArray, List.map_cons, List.map_nil]); first | done | rfl | (simp only [tb_wrap8]; done) | (simp only [tb_wrap8]; rfl) | (simp only [List.length_drop, List.length_take]; rfl)) ?_; (with_reducible refine (culletref15_words.calls k2 _ _ x11_2 t183 _ ?side1 ?side2 A48.out).mono ?_); (case side1 => repeat (first | exact (Kd.R_reads' HO_11.out).2.2 | (with_reducible refine Kd.C_alloc ?_ _) | (with_reducible refine Kd.C_drewN ?_ _) | (with_reducible refine Kd.C_drew ?_))); (case side2 => exact (Kd.R_reads' HO_11.out).2.1); rintro e w49 ⟨v184, rfl, ho0, hb⟩; refine ⟨_, rfl, ?_⟩; have n0_ := Aside0.mk (Kd.R_elder' (by (with_reducible repeat (first | apply Kd.R_alloc | apply Kd.R_drewN | apply Kd.R_drew)); exact HO_6.out) (Kd.R_base ho0) hb); have n1_ := Aside0.mk (Kd.R_below (by (with_reducible repeat (first | apply Kd.R_alloc | apply Kd.R_drewN | apply Kd.R_drew)); exact HO_11.out) hb); have n2_ := Aside0.mk (Kd.R_lower (Kd.R_new' ho0 (Kd.R_lt (by (with_reducible repeat (first | apply Kd.R_alloc | apply Kd.R_drewN | apply Kd.R_drew)); exact HO_6.out))) (below_size (by repeat (first | (with_reducible first | exact HB.out | apply below_alloc | apply pw_below_drewN | apply below_drew1) | exact HB.out)))); have n3_ := Aside0.mk (below_step (by repeat (first | (with_reducible first | exact HB.out | apply below_alloc | apply pw_below_drewN | apply below_drew1) | exact HB.out)) hb); clear HO_6; clear HO_11; clear HB; have HO_6 := n0_; have HO_11 := n1_; have HO185 := n2_; have HB := n3_; clear n0_ n1_ n2_ n3_; (try clear hb); (try clear hb2); (try clear hk); (try clear hi); (try clear ho0)))
            go_ret2
            exact ⟨_, by first | rfl | (simp [errW_none, errW_some] <;> rfl) | (simp only [← hji9, ← hji11]; first | rfl | (simp [errW_none, errW_some] <;> rfl)) | (simp [*, errW_none, errW_some] <;> rfl), by (with_reducible repeat (first | apply Kd.R_alloc | apply Kd.R_drewN | apply Kd.R_drew)); exact Kd.R_mono HO185.out (fun _ hk => trivial), by repeat (first | (with_reducible first | exact HB.out | apply below_alloc | apply pw_below_drewN | apply below_drew1) | exact HB.out)⟩
        ·rw [if_neg c31] at H
         exact absurd H (by simp)
       ·rw [if_neg c30] at H
        exact absurd H (by simp)
     ·rw [if_neg c10] at H
      exact absurd H (by simp)
    ·replace c7 := Bool.eq_false_iff.mpr c7
     subst c7
     have H1 : (some (([] : List Int), 31)) = some (r1, r2) := by rw [if_neg (show ¬ (false = true) by decide)] at H; exact H
     clear H
     have H := H1
     clear H1
     simp only [Option.some.injEq, Prod.mk.injEq] at H
     obtain ⟨rfl, rfl⟩ := H
     go_wp2_with (first | ((with_reducible refine gate_callee (f := 50) rfl ?_); refine goesL_ (some 24) rfl rfl Try.func50 (by kernel_rfl) rfl #[.slice A0 l0.length c0, .int .i64 a1] rfl (by (try simp only [List.map_toArray, List.map_cons, List.map_nil]); first | done | rfl | (simp only [tb_wrap8]; done) | (simp only [tb_wrap8]; rfl) | (simp only [List.length_drop, List.length_take]; rfl)) ?_; (with_reducible refine (culletref15_Lost.calls kj2 _ _ l0 a1 false _ ?side1 ?side2 A6.out).mono ?_); (case side1 => repeat (first | exact (Kd.C_below HR0.out HB.out) | (with_reducible refine Kd.C_alloc ?_ _) | (with_reducible refine Kd.C_drewN ?_ _) | (with_reducible refine Kd.C_drew ?_))); (case side2 => exact HC0.out); rintro e w' ⟨rfl, ⟨nd, rfl⟩⟩; refine ⟨_, rfl, ?_⟩))
     go_ret2
     exact ⟨_, by first | rfl | (simp [errW_none, errW_some] <;> rfl) | (simp [*, errW_none, errW_some] <;> rfl), by first | exact Kd.R_nil _ _ _ _ _ | exact Kd.N_nil _ _ _ _ _ | exact Kd.V_nil _ _ _ _ _ | exact Kd.Q_nil _ _ _ _ _ | exact Kd.S_nil _ _ _ _ _, by repeat (first | (with_reducible first | exact HB.out | apply below_alloc | apply pw_below_drewN | apply below_drew1) | exact HB.out)⟩

end Go.Proofs.Ytklkcenffajfeaa.Q
