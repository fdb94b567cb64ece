-- Printed for this claim by mp.py, a program of its prover, through the kit's print. Lean checks it.
import Derived.Test.YtidogckochpbgaaAx0
import Derived.Test.YtidogckochpbgaaAx2
namespace Go.Proofs.Ytidogckochpbgaa.A
open Go.RowKit Go.Proofs.YtidogckochpbgaaW.PrintWords Go.Proofs.YtidogckochpbgaaW.PrintLast Go.Proofs.YtidogckochpbgaaW.PrintMore
attribute [local go_sem] max2_int min2_int max_two min_two max_three min_three max_four min_four   -- for this text's walks alone
set_option linter.unusedVariables false
set_option linter.unusedSimpArgs false

/-! ### matrix_Identity: function 49 -/
mutual
def matrix_Identity.j0 : Nat → Int → Bool → Option ((List (List Int)) × Int)
  | 0, _, _ => none
  | k + 1, x0, x11 => if x11 = true then (some (([] : List (List Int)), 100)) else ((matrix_blank.f k x0 x0).bind fun t129 => (matrix_Identity.l0 k t129 (t129.length : Int) 0))
def matrix_Identity.l0 : Nat → List (List Int) → Int → Int → Option ((List (List Int)) × Int)
  | 0, _, _, _ => none
  | k + 1, x4, x16, x17 => if x17 < x16 then (if 0 ≤ x17 then (if x17 < (x4.length : Int) then (if x17 < ((rd_L1 x4 x17).length : Int) then (matrix_Identity.l0 k (x4.set (x17 : Int).toNat ((rd_L1 x4 x17).set (x17 : Int).toNat 1)) x16 (wrap64 (x17 + 1))) else (none)) else (none)) else (none)) else (some (x4, 0))
end
def matrix_Identity.f (k : Nat) (a0 : Int) : Option ((List (List Int)) × Int) := if a0 < 1 then (matrix_Identity.j0 k a0 true) else (matrix_Identity.j0 k a0 (decide (a0 > 256)))
theorem matrix_Identity.mono_l : ∀ k, (∀ y0 y1, LeO (matrix_Identity.j0 k y0 y1) (matrix_Identity.j0 (k + 1) y0 y1)) ∧ (∀ y0 y1 y2, LeO (matrix_Identity.l0 k y0 y1 y2) (matrix_Identity.l0 (k + 1) y0 y1 y2))
  | 0 => ⟨fun _ _ r h => by simp [matrix_Identity.j0] at h, fun _ _ _ r h => by simp [matrix_Identity.l0] at h⟩
  | k + 1 => by
    obtain ⟨ih0, ih1⟩ := matrix_Identity.mono_l k
    refine ⟨?_, ?_⟩
    · intro y0 y1
      unfold matrix_Identity.j0
      repeat' first
      | (with_reducible exact ih0 _ _)
      | (with_reducible exact ih1 _ _ _)
      | (with_reducible exact matrix_blank.mono _ _ _)
      | (with_reducible exact LeO.refl _)
      | (with_reducible exact LeO.none _)
      | (with_reducible refine LeO.ite ?_ ?_)
      | (with_reducible refine LeO.bind ?_ (fun _ => ?_))
      | exact ih0 _ _
      | exact ih1 _ _ _
      | exact matrix_blank.mono _ _ _
      | exact LeO.none _
      | refine LeO.ite ?_ ?_
      | refine LeO.bind ?_ (fun _ => ?_)
    · intro y0 y1 y2
      unfold matrix_Identity.l0
      repeat' first
      | (with_reducible exact ih0 _ _)
      | (with_reducible exact ih1 _ _ _)
      | (with_reducible exact matrix_blank.mono _ _ _)
      | (with_reducible exact LeO.refl _)
      | (with_reducible exact LeO.none _)
      | (with_reducible refine LeO.ite ?_ ?_)
      | (with_reducible refine LeO.bind ?_ (fun _ => ?_))
      | exact ih0 _ _
      | exact ih1 _ _ _
      | exact matrix_blank.mono _ _ _
      | exact LeO.none _
      | refine LeO.ite ?_ ?_
      | refine LeO.bind ?_ (fun _ => ?_)
theorem matrix_Identity.mono : ∀ a0 k, LeO (matrix_Identity.f k a0) (matrix_Identity.f (k + 1) a0) := by
  intro a0 k
  obtain ⟨ih0, ih1⟩ := matrix_Identity.mono_l k
  unfold matrix_Identity.f
  repeat' first
      | (with_reducible exact ih0 _ _)
      | (with_reducible exact ih1 _ _ _)
      | (with_reducible exact matrix_blank.mono _ _ _)
      | (with_reducible exact LeO.refl _)
      | (with_reducible exact LeO.none _)
      | (with_reducible refine LeO.ite ?_ ?_)
      | (with_reducible refine LeO.bind ?_ (fun _ => ?_))
      | exact ih0 _ _
      | exact ih1 _ _ _
      | exact matrix_blank.mono _ _ _
      | exact LeO.none _
      | refine LeO.ite ?_ ?_
      | refine LeO.bind ?_ (fun _ => ?_)
set_option maxHeartbeats 8000000 in
set_option maxRecDepth 100000 in
theorem matrix_Identity.calls (k : Nat) (a0 : Int) (r1 : List (List Int)) (r2 : Int) (w : World) (h : matrix_Identity.f k a0 = some (r1, r2)) :
    Calls Try.prog 49 #[.int .i64 a0] w fun e w' => ∃ v0_ : Value, e = .returned (.tuple #[v0_, .int .i64 r2]) ∧ Kd.S (Kd.slice 5 (Kd.int .u8)) 31 w' w.heap.size (fun _ => True) v0_ r1 ∧ Below w.heap.size w w' := by
  have HB := Aside0.mk (Below.refl w.heap.size w)
  have H : (if a0 < 1 then (matrix_Identity.j0 k a0 true) else (matrix_Identity.j0 k a0 (decide (a0 > 256)))) = some (r1, r2) := h
  clear h
  have HC2 := Aside0.mk H
  clear H
  go_enter Try.func49, Try.ntmps49
  go_upto_region 1 with (fail)
  go_cut [11] (fun v11 wc => ∃ (kq : Nat) (x11_1 : Bool), v11 = .bool x11_1 ∧ Aside0 (matrix_Identity.j0 kq a0 x11_1 = some (r1, r2)) ∧ Aside0 (kq ≤ k) ∧ Aside0 (Below w.heap.size w wc))
  case first =>
    have H := HC2.out
    clear HC2
    by_cases c3 : a0 < 1
    · rw [if_pos c3] at H
      have c3b0 : decide (a0 < 1) = true := decide_eq_true c3
      clear c3
      (first | rw [c3b0] | (simp only [i64_w, i32_w]; rw [c3b0]) | skip)
      have H' := Aside0.mk H
      clear H
      go_wp2
      go_meet
      case rel => exact ⟨_, (true), (by first | rfl | (simp; done) | (simp [*]; done)), H', ⟨by first | omega | exact Nat.le_refl _⟩, ⟨by repeat (first | (with_reducible first | exact HB.out | apply below_alloc | apply pw_below_drewN | apply below_drew1) | exact HB.out)⟩⟩
    · rw [if_neg c3] at H
      have c3b0 : decide (a0 < 1) = false := decide_eq_false c3
      clear c3
      (first | rw [c3b0] | (simp only [i64_w, i32_w]; rw [c3b0]) | skip)
      have H' := Aside0.mk H
      clear H
      go_wp2
      go_meet
      case rel => exact ⟨_, (decide (a0 > 256)), (by first | rfl | (simp; done) | (simp [*]; done)), H', ⟨by first | omega | exact Nat.le_refl _⟩, ⟨by repeat (first | (with_reducible first | exact HB.out | apply below_alloc | apply pw_below_drewN | apply below_drew1) | exact HB.out)⟩⟩
  case rest =>
    clear HC2
    try clear p2
    try clear c3
    try clear c3b0
    obtain ⟨kq, x11_1, rfl, HA, HJ1, HB⟩ := hcut
    cases kq with
    | zero => exact absurd HA.out (by simp [matrix_Identity.j0])
    | succ kj1 =>
      have H := HA.out
      clear HA
      simp only [matrix_Identity.j0] at H
      by_cases c4 : x11_1 = true
      · subst c4
        have H1 : (some (([] : List (List Int)), 100)) = some (r1, r2) := by rw [if_pos rfl] at H; exact H
        clear H
        have H := H1
        clear H1
        simp only [Option.some.injEq, Prod.mk.injEq] at H
        obtain ⟨rfl, rfl⟩ := H
        go_wp2
        go_ret2
        exact ⟨_, by first | rfl | (simp [errW_none, errW_some] <;> rfl) | (simp [*, errW_none, errW_some] <;> rfl), by first | exact Kd.S_nil _ _ _ _ _ | exact Kd.N_nil _ _ _ _ _ | exact Kd.V_nil _ _ _ _ _ | exact Kd.Q_nil _ _ _ _ _ | exact Kd.R_nil _ _ _ _ _, by repeat (first | (with_reducible first | exact HB.out | apply below_alloc | apply pw_below_drewN | apply below_drew1) | exact HB.out)⟩
      · replace c4 := Bool.eq_false_iff.mpr c4
        subst c4
        have H1 : ((matrix_blank.f kj1 a0 a0).bind fun t129 => (matrix_Identity.l0 kj1 t129 (t129.length : Int) 0)) = some (r1, r2) := by rw [if_neg (show ¬ (false = true) by decide)] at H; exact H
        clear H
        have H := H1
        clear H1
        replace H := Option.bind_eq_some_iff.mp H
        obtain ⟨t129, A50, H⟩ := H
        replace H : (matrix_Identity.l0 kj1 t129 (t129.length : Int) 0) = some (r1, r2) := H
        have A5 := Aside0.mk A50
        clear A50
        have H' := Aside0.mk H
        clear H
        go_wp2_with (first | ((with_reducible refine gate_callee (f := 43) rfl ?_); refine goesL_ (some 14) rfl rfl Try.func43 (by kernel_rfl) rfl #[.int .i64 a0, .int .i64 a0] rfl (by (try simp only [List.map_toArray, List.map_cons, List.map_nil]); first | done | rfl | (simp only [tb_wrap8]; done) | (simp only [tb_wrap8]; rfl) | (simp only [List.length_drop, List.length_take]; rfl)) ?_; (with_reducible refine (matrix_blank.calls kj1 a0 a0 t129 _ A5.out).mono ?_); rintro e w6 ⟨v130, rfl, ho0, hb⟩; refine ⟨_, rfl, ?_⟩; have n0_ := Aside0.mk (Kd.S_lower ho0 (below_size (by repeat (first | (with_reducible first | exact HB.out | apply below_alloc | apply pw_below_drewN | apply below_drew1) | exact HB.out)))); have n1_ := Aside0.mk (below_step (by repeat (first | (with_reducible first | exact HB.out | apply below_alloc | apply pw_below_drewN | apply below_drew1) | exact HB.out)) hb); clear HB; have HO131 := n0_; have HB := n1_; clear n0_ n1_; (try clear hb); (try clear hb2); (try clear hk); (try clear hi); (try clear ho0); obtain ⟨Ao7, co7, eo7⟩ := Kd.S_slice HO131.out; subst eo7))
        go_loopg [17] kj1 (fun kq v17 w' => ∃ (x4_2 : List (List Int)) (x17_2 : Int), v17 = .int .i64 x17_2 ∧ Aside0 (matrix_Identity.l0 kq x4_2 (t129.length : Int) x17_2 = some (r1, r2)) ∧ Aside0 (kq ≤ kj1) ∧ Aside0 (Kd.S (Kd.slice 5 (Kd.int .u8)) 31 w' w.heap.size (fun _ => True) (.slice Ao7 t129.length co7) x4_2) ∧ Aside0 (Below w.heap.size w w'))
        case atStart => exact ⟨(t129), (0), (by first | rfl | (simp; done) | (simp [*]; done)), H', ⟨Nat.le_refl _⟩, ⟨by (with_reducible repeat (first | apply Kd.S_alloc | apply Kd.S_drewN | apply Kd.S_drew)); exact HO131.out⟩, ⟨by repeat (first | (with_reducible first | exact HB.out | apply below_alloc | apply pw_below_drewN | apply below_drew1) | exact HB.out)⟩⟩
        case round =>
          clear H'
          try clear p2
          try clear c3
          try clear c3b0
          try clear c4
          try clear p2
          obtain ⟨x4_2, x17_2, rfl, HA, HK2, HO_4, HB⟩ := hrel
          have hl4_2 := (Kd.S_reads' HO_4.out).1
          rw [hl4_2] at HO_4
          (try simp only [hl4_2])
          cases gk with
          | zero => exact absurd HA.out (by simp [matrix_Identity.l0])
          | succ k2 =>
            have H := HA.out
            clear HA
            simp only [matrix_Identity.l0] at H
            by_cases c8 : x17_2 < (t129.length : Int)
            · rw [if_pos c8] at H
              have c8b0 : decide (x17_2 < (t129.length : Int)) = true := decide_eq_true c8
              (try simp only [hl4_2] at c8b0)
              clear c8
              by_cases c9 : 0 ≤ x17_2
              · rw [if_pos c9] at H
                have c9b0 : decide (0 ≤ x17_2) = true := decide_eq_true c9
                (try simp only [hl4_2] at c9b0)
                clear c9
                by_cases c10 : x17_2 < (x4_2.length : Int)
                · rw [if_pos c10] at H
                  have c10b0 : decide (x17_2 < (x4_2.length : Int)) = true := decide_eq_true c10
                  (try simp only [hl4_2] at c10b0)
                  clear c10
                  by_cases c11 : x17_2 < ((rd_L1 x4_2 x17_2).length : Int)
                  · rw [if_pos c11] at H
                    have c11b0 : decide (x17_2 < ((rd_L1 x4_2 x17_2).length : Int)) = true := decide_eq_true c11
                    (try simp only [hl4_2] at c11b0)
                    clear c11
                    obtain ⟨y133, hy133⟩ : ∃ y_ : List Int, y_ = ((rd_L1 x4_2 x17_2).set (x17_2 : Int).toNat 1) := ⟨_, rfl⟩
                    replace H : (matrix_Identity.l0 k2 (x4_2.set (x17_2 : Int).toNat y133) (t129.length : Int) (wrap64 (x17_2 + 1))) = some (r1, r2) := by first | (rw [hy133]; with_reducible exact H) | (have H2_ := (Option.bind_some _ _).symm.trans H; rw [hy133]; with_reducible exact H2_) | (have H2_ := (Option.bind_some _ _).symm.trans H; with_reducible exact H2_) | with_reducible exact H | (rw [hy133]; exact H) | exact H
                    have Ny133 := Aside0.mk hy133
                    clear hy133
                    obtain ⟨y135, hy135⟩ : ∃ y_ : List (List Int), y_ = (x4_2.set (x17_2 : Int).toNat y133) := ⟨_, rfl⟩
                    replace H : (matrix_Identity.l0 k2 y135 (t129.length : Int) (wrap64 (x17_2 + 1))) = some (r1, r2) := by first | (rw [hy135]; with_reducible exact H) | (have H2_ := (Option.bind_some _ _).symm.trans H; rw [hy135]; with_reducible exact H2_) | (have H2_ := (Option.bind_some _ _).symm.trans H; with_reducible exact H2_) | with_reducible exact H | (rw [hy135]; exact H) | exact H
                    have Ny135 := Aside0.mk hy135
                    clear hy135
                    have H' := Aside0.mk H
                    clear H
                    have p132 : 0 ≤ (x17_2 : Int) := of_decide_eq_true (by first | (with_reducible assumption) | assumption)
                    have q132 : x17_2 < (x4_2.length : Int) := of_decide_eq_true (by first | (with_reducible assumption) | assumption)
                    obtain ⟨ad132, A132_0, c132_0, e132, hx132_0, hl132_0, hi132_0⟩ := at_L1 (Kd.S_reads' HO_4.out).2.2 x17_2 p132 q132
                    cases e132
                    obtain ⟨ce132, hce132, hMe132, hcc132⟩ := Kd.S_get HO_4.out [] x17_2 p132 (by first | exact q132 | exact of_decide_eq_true (by first | (with_reducible assumption) | assumption) | (have e_ := (Kd.S_reads' HO_4.out).1; omega))
                    obtain ⟨ve132_0, rfl, ge132_0⟩ := hMe132
                    have hv132_0 := hcc132 0 _ rfl
                    rw [Nat.add_zero, show ((Kd.slice 5 (Kd.int .u8))).sz = 1 from rfl, Nat.mul_one] at hv132_0
                    replace hv132_0 := Option.some.inj (hv132_0.symm.trans hx132_0)
                    rw [hv132_0] at ge132_0
                    have HL132_0 := Aside0.mk (show Kd.R (Kd.int .u8) 5 _ _ _ _ (rd_L1 x4_2 x17_2) from ge132_0)
                    clear hv132_0 ge132_0
                    have HX132_0 := Aside0.mk hx132_0
                    clear hcc132 hce132
                    have HR132_0 := Aside0.mk hi132_0
                    have HC132_0 := Aside0.mk hl132_0
                    clear hi132_0 hl132_0
                    replace p132 := eq_true p132
                    replace q132 := eq_true q132
                    have p12 : 0 ≤ (x17_2 : Int) := of_decide_eq_true (by first | (with_reducible assumption) | assumption)
                    have q12 : (x17_2 : Int) < (((rd_L1 x4_2 x17_2).length : Int) : Int) := of_decide_eq_true (by first | (with_reducible assumption) | assumption)
                    obtain ⟨go12, co12, eo12, gb12, gl12, cl12, HG12⟩ := Kd.R_form HL132_0.out (by omega)
                    (first | cases eo12 | (injection eo12 with ea_ en_ ec_; (first | subst ea_ | (injection ea_ with ea_; subst ea_)); subst ec_; clear en_))
                    have GB12 := Aside0.mk gb12
                    have GG12 := Aside0.mk HG12
                    clear gb12 gl12 HG12
                    obtain ⟨hx12_0, hf12_0⟩ := Kd.R_celln 0 HL132_0.out (x17_2 : Int) p12 q12
                    replace p12 := eq_true p12
                    replace q12 := eq_true q12
                    have hq13 : (x17_2 : Int) < (x4_2.length : Int) := (by have h_ : (x17_2 : Int) < ((x4_2.length : Int) : Int) := of_decide_eq_true (by first | (with_reducible assumption) | assumption); first | exact h_ | (have e_ := (Kd.S_reads' HO_4.out).1; omega) | simpa only [List.length_set, List.length_set] using h_)
                    obtain ⟨oki13, ce13, hcl13, hM13, hcc13, hok13, hbk13⟩ := Kd.S_borrow HO_4.out [] (x17_2 : Int) (of_decide_eq_true (by first | (with_reducible assumption) | assumption)) hq13
                    obtain ⟨ve13_0, rfl, ge13_0⟩ := hM13
                    have hv13 := hcc13 0 _ rfl
                    rw [Nat.add_zero, show ((Kd.slice 5 (Kd.int .u8))).sz = 1 from rfl, Nat.mul_one] at hv13
                    replace hv13 := Option.some.inj (hv13.symm.trans HX132_0.out)
                    subst hv13
                    clear hcc13 hcl13
                    replace ge13_0 := (show Kd.R (Kd.int .u8) 5 _ _ _ _ (rd_L1 x4_2 x17_2) from ge13_0)
                    have HP13 := Kd.R_putg ge13_0 (x17_2 : Int) 1
                    go_wp2_with (first | ((with_reducible refine gate_store (t := 5) (p := 25) rfl ?_); refine store_event (t := 5) (p := 25) (v := ?vo_w14) (w1 := (wr.setCell ⟨go12, (x17_2 : Int).toNat, none⟩ (.int .u8 1))) ?hg ?ho ?hn ?hr ?_; (case ho => rfl); (case hg => rfl); (case hn => rfl); (case hr => first | (go_simp; done) | (go_simp; rfl)); intro w14 hw; have hg : wr.grownBy w14 (some go12) := (by rw [hw]; exact HP13.2); have hz_ : Kd.R (Kd.int .u8) 5 w14 w.heap.size oki13 (.slice (some ⟨go12, 0, none⟩) (rd_L1 x4_2 x17_2).length c132_0) y133 := (by rw [hw, Ny133.out]; exact HP13.1); have hp_ : Kd.S (Kd.slice 5 (Kd.int .u8)) 31 w14 w.heap.size (fun _ => True) (.slice (some ad132) x4_2.length co7) y135 := (by rw [Ny135.out]; exact hbk13 hg (fun k_ e_ => by injection e_ with e_; subst e_; exact ge13_0.1 _ rfl) (Kd.M_row hz_)); have hm_ := Kd.R_mono hz_ hok13; clear HP13 hbk13; have n0_ := Aside0.mk (hp_); have n1_ := Aside0.mk ((by rw [hw]; exact below_set (HB.out) GB12.out : Below w.heap.size w w14)); have n2_ := Aside0.mk (hm_); have n3_ := Aside0.mk ((Kd.R_reads' hm_).2.1); clear HO_4; clear HB; clear HL132_0; have HO_4 := n0_; have HB := n1_; have HL136 := n2_; have HC134 := n3_; clear n0_ n1_ n2_ n3_; clear hg hw hp_ hz_ hm_ hok13))
                    (try simp only [← hl4_2])
                    go_roundg k2
                    case measure => have := HJ1.out; have := HK2.out; omega
                    case rel => exact ⟨(y135), (wrap64 (x17_2 + 1)), (by first | rfl | (simp; done) | (simp [*]; done)), H', ⟨by have := HJ1.out; have := HK2.out; omega⟩, ⟨by (try simp only [hl4_2]); (with_reducible repeat (first | apply Kd.S_alloc | apply Kd.S_drewN | apply Kd.S_drew)); exact HO_4.out⟩, ⟨by repeat (first | (with_reducible first | exact HB.out | apply below_alloc | apply pw_below_drewN | apply below_drew1) | exact HB.out)⟩⟩
                  · rw [if_neg c11] at H
                    exact absurd H (by simp)
                · rw [if_neg c10] at H
                  exact absurd H (by simp)
              · rw [if_neg c9] at H
                exact absurd H (by simp)
            · rw [if_neg c8] at H
              have c8b0 : decide (x17_2 < (t129.length : Int)) = false := decide_eq_false c8
              (try simp only [hl4_2] at c8b0)
              clear c8
              simp only [Option.some.injEq, Prod.mk.injEq] at H
              obtain ⟨rfl, rfl⟩ := H
              go_wp2
              go_ret2
              exact ⟨_, by first | rfl | (simp [errW_none, errW_some] <;> rfl) | (simp [*, errW_none, errW_some] <;> rfl), by (with_reducible repeat (first | apply Kd.S_alloc | apply Kd.S_drewN | apply Kd.S_drew)); exact HO_4.out, by repeat (first | (with_reducible first | exact HB.out | apply below_alloc | apply pw_below_drewN | apply below_drew1) | exact HB.out)⟩

end Go.Proofs.Ytidogckochpbgaa.A
