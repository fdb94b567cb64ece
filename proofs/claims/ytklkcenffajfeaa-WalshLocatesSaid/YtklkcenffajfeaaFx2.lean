import Derived.Test.YtklkcenffajfeaaFx0
-- Printed for this claim by mp.py, a program of its prover, through the kit's print. Lean checks it.
namespace Go.Proofs.Ytklkcenffajfeaa.F
open Go.RowKit Go.Proofs.YtklkcenffajfeaaW.PrintWords Go.Proofs.YtklkcenffajfeaaW.PrintLast Go.Proofs.YtklkcenffajfeaaW.PrintMore Go.Proofs.Ytklkcenffajfeaa.A
attribute [local go_sem] max2_int min2_int max_two min_two max_three min_three max_four min_four   -- for this text's walks alone
set_option linter.unusedVariables false
set_option linter.unusedSimpArgs false

/-! ### culletref03_Exps: function 51 -/
def culletref03_Exps.l0 : Nat → List Int → Int → Int → Option (List Int)
 | 0, _, _, _ => none
 | k + 1, x1, x2, x3 => if x3 < 65535 then (if 0 ≤ x3 then (if x3 < (x1.length : Int) then ((some (x1.set (x3 : Int).toNat (IntKind.u16.wrap (x2)) : List Int)).bind fun y115 => (if ((x2 * 2) % 4294967296) > 65535 then (culletref03_Exps.l0 k y115 (Go.bits .xor .u32 ((x2 * 2) % 4294967296) 65581) (wrap64 (x3 + 1))) else (culletref03_Exps.l0 k y115 ((x2 * 2) % 4294967296) (wrap64 (x3 + 1))))) else (none)) else (none)) else (some x1)
def culletref03_Exps.f (k : Nat)  : Option (List Int) := if 65535 ≤ 140737488355328 then (culletref03_Exps.l0 k (List.replicate 65535 0) 1 0) else (none)
theorem culletref03_Exps.mono_l : ∀ k, (∀ y0 y1 y2, LeO (culletref03_Exps.l0 k y0 y1 y2) (culletref03_Exps.l0 (k + 1) y0 y1 y2))
 | 0 => fun _ _ _ r h => by simp [culletref03_Exps.l0] at h
 | k + 1 => by
  have ih0 := culletref03_Exps.mono_l k
  ·intro y0 y1 y2
   unfold culletref03_Exps.l0
   repeat' first
   | (with_reducible exact ih0 _ _ _)
   | (with_reducible exact LeO.refl _)
   | (with_reducible exact LeO.none _)
   | (with_reducible refine LeO.ite ?_ ?_)
   | (with_reducible refine LeO.bind ?_ (fun _ => ?_))
   | exact ih0 _ _ _
   | exact LeO.none _
   | refine LeO.ite ?_ ?_
   | refine LeO.bind ?_ (fun _ => ?_)
theorem culletref03_Exps.mono : ∀ k, LeO (culletref03_Exps.f k ) (culletref03_Exps.f (k + 1) ) := by
 intro  k
 have ih0 := culletref03_Exps.mono_l k
 unfold culletref03_Exps.f
 repeat' first
   | (with_reducible exact ih0 _ _ _)
   | (with_reducible exact LeO.refl _)
   | (with_reducible exact LeO.none _)
   | (with_reducible refine LeO.ite ?_ ?_)
   | (with_reducible refine LeO.bind ?_ (fun _ => ?_))
   | exact ih0 _ _ _
   | exact LeO.none _
   | refine LeO.ite ?_ ?_
   | refine LeO.bind ?_ (fun _ => ?_)
set_option maxHeartbeats 8000000 in
set_option maxRecDepth 100000 in
theorem culletref03_Exps.calls (k : Nat)  (r : List Int) (w : World) (h : culletref03_Exps.f k  = some r) :
  Calls Try.prog 51 #[] w fun e w' => ∃ v0_ : Value, e = .returned (v0_) ∧ Kd.R (Kd.int .u16) 33 w' w.heap.size (fun _ => True) v0_ r ∧ Below w.heap.size w w' := by
 have HB := Aside0.mk (Below.refl w.heap.size w)
 have H : (if 65535 ≤ 140737488355328 then (culletref03_Exps.l0 k (List.replicate 65535 0) 1 0) else (none)) = some r := h
 clear h
 by_cases c1 : 65535 ≤ 140737488355328
 ·rw [if_pos c1] at H
  have c1b0 := eq_true c1
  have c1b1 : decide (65535 ≤ 140737488355328) = true := decide_eq_true c1
  clear c1
  obtain ⟨y112, hy112⟩ : ∃ y_ : List Int, y_ = (List.replicate 65535 0) := ⟨_, rfl⟩
  replace H : (culletref03_Exps.l0 k y112 1 0) = some r := by first | (rw [hy112]; with_reducible exact H) | (have H2_ := (Option.bind_some _ _).symm.trans H; rw [hy112]; with_reducible exact H2_) | (have H2_ := (Option.bind_some _ _).symm.trans H; with_reducible exact H2_) | with_reducible exact H | (rw [hy112]; exact H) | exact H
  have Ny112 := Aside0.mk hy112
  clear hy112
  have H' := Aside0.mk H
  clear H
  go_enter Try.func51, Try.ntmps51
  go_wp2_with (first | ((with_reducible refine gate_dst (N := 4) rfl ?_); refine Kd.R_make (Kd.int .u16) _ 33 rfl (N := 4) rfl 22 _ _ rfl 65535 rfl rfl Try.underlying22 (.int .u16 0) 2 info33 rfl (by decide) (by omega) 0 (ok := fun _ => True) (okp := fun _ => True) rfl (fun _ hk => hk) trivial (by omega) (by omega) (Below.refl _ _) (Nat.le_refl _) ?_; intro v113 w2 ho3 hb hg_ hnew_; clear hg_ hnew_; (first | rw [← Ny112.out] at ho3 | (simp only [Int.reduceToNat] at ho3; rw [← Ny112.out] at ho3)); have n0_ := Aside0.mk (Kd.R_lower ho3 (below_size (by repeat (first | (with_reducible first | exact HB.out | apply below_alloc | apply pw_below_drewN | apply below_drew1) | exact HB.out)))); have n1_ := Aside0.mk (below_step (by repeat (first | (with_reducible first | exact HB.out | apply below_alloc | apply pw_below_drewN | apply below_drew1) | exact HB.out)) hb); clear HB; have HO114 := n0_; have HB := n1_; clear n0_ n1_; clear hb ho3))
  go_loopg [2, 3] k (fun kq v2 v3 w' => ∃ (x1_1 : List Int) (x2_1 : Int) (x3_1 : Int), v2 = .int .u32 x2_1 ∧ v3 = .int .i64 x3_1 ∧ Aside0 (culletref03_Exps.l0 kq x1_1 x2_1 x3_1 = some r) ∧ Aside0 (kq ≤ k) ∧ Aside0 (Kd.R (Kd.int .u16) 33 w' w.heap.size (fun _ => True) v113 x1_1) ∧ Aside0 (Below w.heap.size w w'))
  case atStart => exact ⟨(y112), (1), (0), (by first | rfl | (simp; done) | (simp [*]; done)), (by first | rfl | (simp; done) | (simp [*]; done)), H', ⟨Nat.le_refl _⟩, ⟨by (with_reducible repeat (first | apply Kd.R_alloc | apply Kd.R_drewN | apply Kd.R_drew)); exact HO114.out⟩, ⟨by repeat (first | (with_reducible first | exact HB.out | apply below_alloc | apply pw_below_drewN | apply below_drew1) | exact HB.out)⟩⟩
  case round =>
   clear H'
   try clear c1
   try clear c1b0
   try clear c1b1
   try clear p2
   obtain ⟨x1_1, x2_1, x3_1, rfl, rfl, HA, HK1, HO_1, HB⟩ := hrel
   cases gk with
   | zero => exact absurd HA.out (by simp [culletref03_Exps.l0])
   | succ k1 =>
    have H := HA.out
    clear HA
    simp only [culletref03_Exps.l0] at H
    by_cases c4 : x3_1 < 65535
    ·rw [if_pos c4] at H
     have c4b0 : decide (x3_1 < 65535) = true := decide_eq_true c4
     clear c4
     by_cases c5 : 0 ≤ x3_1
     ·rw [if_pos c5] at H
      have c5b0 : decide (0 ≤ x3_1) = true := decide_eq_true c5
      clear c5
      by_cases c6 : x3_1 < (x1_1.length : Int)
      ·rw [if_pos c6] at H
       have c6b0 : decide (x3_1 < (x1_1.length : Int)) = true := decide_eq_true c6
       clear c6
       obtain ⟨y115, hy115⟩ : ∃ y_ : List Int, y_ = (x1_1.set (x3_1 : Int).toNat (IntKind.u16.wrap (x2_1))) := ⟨_, rfl⟩
       replace H : (if ((x2_1 * 2) % 4294967296) > 65535 then (culletref03_Exps.l0 k1 y115 (Go.bits .xor .u32 ((x2_1 * 2) % 4294967296) 65581) (wrap64 (x3_1 + 1))) else (culletref03_Exps.l0 k1 y115 ((x2_1 * 2) % 4294967296) (wrap64 (x3_1 + 1)))) = some r := by first | (rw [hy115]; with_reducible exact H) | (have H2_ := (Option.bind_some _ _).symm.trans H; rw [hy115]; with_reducible exact H2_) | (have H2_ := (Option.bind_some _ _).symm.trans H; with_reducible exact H2_) | with_reducible exact H | (rw [hy115]; exact H) | exact H
       have Ny115 := Aside0.mk hy115
       clear hy115
       by_cases c8 : ((x2_1 * 2) % 4294967296) > 65535
       ·rw [if_pos c8] at H
        have c8b0 : decide (65535 < ((x2_1 * 2) % 4294967296)) = true := decide_eq_true c8
        clear c8
        have H' := Aside0.mk H
        clear H
        have p7 : 0 ≤ (x3_1 : Int) := of_decide_eq_true (by first | (with_reducible assumption) | assumption)
        have q7 : (x3_1 : Int) < ((x1_1.length : Int) : Int) := of_decide_eq_true (by first | (with_reducible assumption) | assumption)
        obtain ⟨go7, co7, eo7, gb7, gl7, cl7, HG7⟩ := Kd.R_form HO_1.out (by omega)
        (first | cases eo7 | (injection eo7 with ea_ en_ ec_; (first | subst ea_ | (injection ea_ with ea_; subst ea_)); subst ec_; clear en_))
        have GB7 := Aside0.mk gb7
        have GG7 := Aside0.mk HG7
        clear gb7 gl7 HG7
        obtain ⟨hx7_0, hf7_0⟩ := Kd.R_celln 0 HO_1.out (x3_1 : Int) p7 q7
        replace p7 := eq_true p7
        replace q7 := eq_true q7
        have HP9 := Kd.R_putg HO_1.out (x3_1 : Int) (IntKind.u16.wrap (x2_1))
        go_wp2_with (first | ((with_reducible refine gate_store (t := 33) (p := 13) rfl ?_); refine store_event (t := 33) (p := 13) (v := ?vo_w10) (w1 := (wr.setCell ⟨go7, (x3_1 : Int).toNat, none⟩ (.int .u16 (IntKind.u16.wrap (x2_1))))) ?hg ?ho ?hn ?hr ?_; (case ho => rfl); (case hg => rfl); (case hn => rfl); (case hr => first | (go_simp; done) | (go_simp; rfl)); intro w10 hw; have hg : wr.grownBy w10 (some go7) := (by rw [hw]; exact HP9.2); have hp_ : Kd.R (Kd.int .u16) 33 w10 w.heap.size (fun _ => True) (.slice (some ⟨go7, 0, none⟩) x1_1.length co7) y115 := (by rw [hw, Ny115.out]; exact HP9.1); clear HP9; have n0_ := Aside0.mk (hp_); have n1_ := Aside0.mk ((by rw [hw]; exact below_set (HB.out) GB7.out : Below w.heap.size w w10)); clear HO_1; clear HB; have HO_1 := n0_; have HB := n1_; clear n0_ n1_; clear hg hw hp_))
        go_roundg k1
        case measure => have := HK1.out; omega
        case rel => exact ⟨(y115), (Go.bits .xor .u32 ((x2_1 * 2) % 4294967296) 65581), (wrap64 (x3_1 + 1)), (by first | rfl | (simp; done) | (simp [*]; done)), (by first | rfl | (simp; done) | (simp [*]; done)), H', ⟨by have := HK1.out; omega⟩, ⟨by (with_reducible repeat (first | apply Kd.R_alloc | apply Kd.R_drewN | apply Kd.R_drew)); exact HO_1.out⟩, ⟨by repeat (first | (with_reducible first | exact HB.out | apply below_alloc | apply pw_below_drewN | apply below_drew1) | exact HB.out)⟩⟩
       ·rw [if_neg c8] at H
        have c8b0 : decide (65535 < ((x2_1 * 2) % 4294967296)) = false := decide_eq_false c8
        clear c8
        have H' := Aside0.mk H
        clear H
        have p7 : 0 ≤ (x3_1 : Int) := of_decide_eq_true (by first | (with_reducible assumption) | assumption)
        have q7 : (x3_1 : Int) < ((x1_1.length : Int) : Int) := of_decide_eq_true (by first | (with_reducible assumption) | assumption)
        obtain ⟨go7, co7, eo7, gb7, gl7, cl7, HG7⟩ := Kd.R_form HO_1.out (by omega)
        (first | cases eo7 | (injection eo7 with ea_ en_ ec_; (first | subst ea_ | (injection ea_ with ea_; subst ea_)); subst ec_; clear en_))
        have GB7 := Aside0.mk gb7
        have GG7 := Aside0.mk HG7
        clear gb7 gl7 HG7
        obtain ⟨hx7_0, hf7_0⟩ := Kd.R_celln 0 HO_1.out (x3_1 : Int) p7 q7
        replace p7 := eq_true p7
        replace q7 := eq_true q7
        have HP11 := Kd.R_putg HO_1.out (x3_1 : Int) (IntKind.u16.wrap (x2_1))
        go_wp2_with (first | ((with_reducible refine gate_store (t := 33) (p := 13) rfl ?_); refine store_event (t := 33) (p := 13) (v := ?vo_w12) (w1 := (wr.setCell ⟨go7, (x3_1 : Int).toNat, none⟩ (.int .u16 (IntKind.u16.wrap (x2_1))))) ?hg ?ho ?hn ?hr ?_; (case ho => rfl); (case hg => rfl); (case hn => rfl); (case hr => first | (go_simp; done) | (go_simp; rfl)); intro w12 hw; have hg : wr.grownBy w12 (some go7) := (by rw [hw]; exact HP11.2); have hp_ : Kd.R (Kd.int .u16) 33 w12 w.heap.size (fun _ => True) (.slice (some ⟨go7, 0, none⟩) x1_1.length co7) y115 := (by rw [hw, Ny115.out]; exact HP11.1); clear HP11; have n0_ := Aside0.mk (hp_); have n1_ := Aside0.mk ((by rw [hw]; exact below_set (HB.out) GB7.out : Below w.heap.size w w12)); clear HO_1; clear HB; have HO_1 := n0_; have HB := n1_; clear n0_ n1_; clear hg hw hp_))
        go_roundg k1
        case measure => have := HK1.out; omega
        case rel => exact ⟨(y115), ((x2_1 * 2) % 4294967296), (wrap64 (x3_1 + 1)), (by first | rfl | (simp; done) | (simp [*]; done)), (by first | rfl | (simp; done) | (simp [*]; done)), H', ⟨by have := HK1.out; omega⟩, ⟨by (with_reducible repeat (first | apply Kd.R_alloc | apply Kd.R_drewN | apply Kd.R_drew)); exact HO_1.out⟩, ⟨by repeat (first | (with_reducible first | exact HB.out | apply below_alloc | apply pw_below_drewN | apply below_drew1) | exact HB.out)⟩⟩
      ·rw [if_neg c6] at H
       exact absurd H (by simp)
     ·rw [if_neg c5] at H
      exact absurd H (by simp)
    ·rw [if_neg c4] at H
     have c4b0 : decide (x3_1 < 65535) = false := decide_eq_false c4
     clear c4
     obtain rfl := Option.some.inj H
     go_wp2
     go_ret
     exact ⟨_, by first | rfl | (simp [errW_none, errW_some] <;> rfl) | (simp [*, errW_none, errW_some] <;> rfl), by (with_reducible repeat (first | apply Kd.R_alloc | apply Kd.R_drewN | apply Kd.R_drew)); exact HO_1.out, by repeat (first | (with_reducible first | exact HB.out | apply below_alloc | apply pw_below_drewN | apply below_drew1) | exact HB.out)⟩
 ·rw [if_neg c1] at H
  exact absurd H (by simp)

/-! ### culletref03_LogList: function 47 -/
def culletref03_LogList.l0 : Nat → List Int → List Int → Int → Int → Option (List Int)
 | 0, _, _, _, _ => none
 | k + 1, x1, x7, x8, x9 => if x9 < x8 then (if 0 ≤ x9 then (if x9 < (x7.length : Int) then (if 0 ≤ (rd x7 x9) then (if (rd x7 x9) < (x1.length : Int) then (culletref03_LogList.l0 k (x1.set ((rd x7 x9) : Int).toNat x9) x7 x8 (wrap64 (x9 + 1))) else (none)) else (none)) else (none)) else (none)) else (some x1)
def culletref03_LogList.f (k : Nat)  : Option (List Int) := if 65536 ≤ 35184372088832 then ((some (List.replicate 65536 0 : List Int)).bind fun y116 => (if 0 < (y116.length : Int) then ((culletref03_Exps.f k).bind fun t120 => (culletref03_LogList.l0 k (y116.set (0 : Int).toNat (-1)) t120 (t120.length : Int) 0)) else (none))) else (none)
theorem culletref03_LogList.mono_l : ∀ k, (∀ y0 y1 y2 y3, LeO (culletref03_LogList.l0 k y0 y1 y2 y3) (culletref03_LogList.l0 (k + 1) y0 y1 y2 y3))
 | 0 => fun _ _ _ _ r h => by simp [culletref03_LogList.l0] at h
 | k + 1 => by
  have ih0 := culletref03_LogList.mono_l k
  ·intro y0 y1 y2 y3
   unfold culletref03_LogList.l0
   repeat' first
   | (with_reducible exact ih0 _ _ _ _)
   | (with_reducible exact culletref03_Exps.mono _)
   | (with_reducible exact LeO.refl _)
   | (with_reducible exact LeO.none _)
   | (with_reducible refine LeO.ite ?_ ?_)
   | (with_reducible refine LeO.bind ?_ (fun _ => ?_))
   | exact ih0 _ _ _ _
   | exact culletref03_Exps.mono _
   | exact LeO.none _
   | refine LeO.ite ?_ ?_
   | refine LeO.bind ?_ (fun _ => ?_)
theorem culletref03_LogList.mono : ∀ k, LeO (culletref03_LogList.f k ) (culletref03_LogList.f (k + 1) ) := by
 intro  k
 have ih0 := culletref03_LogList.mono_l k
 unfold culletref03_LogList.f
 repeat' first
   | (with_reducible exact ih0 _ _ _ _)
   | (with_reducible exact culletref03_Exps.mono _)
   | (with_reducible exact LeO.refl _)
   | (with_reducible exact LeO.none _)
   | (with_reducible refine LeO.ite ?_ ?_)
   | (with_reducible refine LeO.bind ?_ (fun _ => ?_))
   | exact ih0 _ _ _ _
   | exact culletref03_Exps.mono _
   | exact LeO.none _
   | refine LeO.ite ?_ ?_
   | refine LeO.bind ?_ (fun _ => ?_)
set_option maxHeartbeats 8000000 in
set_option maxRecDepth 100000 in
theorem culletref03_LogList.calls (k : Nat)  (r : List Int) (w : World) (h : culletref03_LogList.f k  = some r) :
  Calls Try.prog 47 #[] w fun e w' => ∃ v0_ : Value, e = .returned (v0_) ∧ Kd.R (Kd.int .i64) 3 w' w.heap.size (fun _ => True) v0_ r ∧ Below w.heap.size w w' := by
 have HB := Aside0.mk (Below.refl w.heap.size w)
 have H : (if 65536 ≤ 35184372088832 then ((some (List.replicate 65536 0 : List Int)).bind fun y116 => (if 0 < (y116.length : Int) then ((culletref03_Exps.f k).bind fun t120 => (culletref03_LogList.l0 k (y116.set (0 : Int).toNat (-1)) t120 (t120.length : Int) 0)) else (none))) else (none)) = some r := h
 clear h
 by_cases c1 : 65536 ≤ 35184372088832
 ·rw [if_pos c1] at H
  have c1b0 := eq_true c1
  have c1b1 : decide (65536 ≤ 35184372088832) = true := decide_eq_true c1
  clear c1
  obtain ⟨y116, hy116⟩ : ∃ y_ : List Int, y_ = (List.replicate 65536 0) := ⟨_, rfl⟩
  replace H : (if 0 < (y116.length : Int) then ((culletref03_Exps.f k).bind fun t120 => (culletref03_LogList.l0 k (y116.set (0 : Int).toNat (-1)) t120 (t120.length : Int) 0)) else (none)) = some r := by first | (rw [hy116]; with_reducible exact H) | (have H2_ := (Option.bind_some _ _).symm.trans H; rw [hy116]; with_reducible exact H2_) | (have H2_ := (Option.bind_some _ _).symm.trans H; with_reducible exact H2_) | with_reducible exact H | (rw [hy116]; exact H) | exact H
  have Ny116 := Aside0.mk hy116
  clear hy116
  by_cases c2 : 0 < (y116.length : Int)
  ·rw [if_pos c2] at H
   have c2b0 : decide (0 < (y116.length : Int)) = true := decide_eq_true c2
   have c2b1 : decide (0 < y116.length) = true := decide_eq_true (by omega)
   clear c2
   obtain ⟨y119, hy119⟩ : ∃ y_ : List Int, y_ = (y116.set (0 : Int).toNat (-1)) := ⟨_, rfl⟩
   replace H : ((culletref03_Exps.f k).bind fun t120 => (culletref03_LogList.l0 k y119 t120 (t120.length : Int) 0)) = some r := by first | (rw [hy119]; with_reducible exact H) | (have H2_ := (Option.bind_some _ _).symm.trans H; rw [hy119]; with_reducible exact H2_) | (have H2_ := (Option.bind_some _ _).symm.trans H; with_reducible exact H2_) | with_reducible exact H | (rw [hy119]; exact H) | exact H
   have Ny119 := Aside0.mk hy119
   clear hy119
   replace H := Option.bind_eq_some_iff.mp H
   obtain ⟨t120, A40, H⟩ := H
   replace H : (culletref03_LogList.l0 k y119 t120 (t120.length : Int) 0) = some r := H
   have A4 := Aside0.mk A40
   clear A40
   have H' := Aside0.mk H
   clear H
   go_enter Try.func47, Try.ntmps47
   go_wp2_with (first | ((with_reducible refine gate_dst (N := 4) rfl ?_); refine Kd.R_make (Kd.int .i64) _ 3 rfl (N := 4) rfl 35 _ _ rfl 65536 rfl rfl Try.underlying35 (.int .i64 0) 8 info3 rfl (by decide) (by omega) 0 (ok := fun _ => True) (okp := fun _ => True) rfl (fun _ hk => hk) trivial (by omega) (by omega) (Below.refl _ _) (Nat.le_refl _) ?_; intro v117 w5 ho6 hb hg_ hnew_; clear hg_ hnew_; (first | rw [← Ny116.out] at ho6 | (simp only [Int.reduceToNat] at ho6; rw [← Ny116.out] at ho6)); have n0_ := Aside0.mk (Kd.R_lower ho6 (below_size (by repeat (first | (with_reducible first | exact HB.out | apply below_alloc | apply pw_below_drewN | apply below_drew1) | exact HB.out)))); have n1_ := Aside0.mk (below_step (by repeat (first | (with_reducible first | exact HB.out | apply below_alloc | apply pw_below_drewN | apply below_drew1) | exact HB.out)) hb); clear HB; have HO118 := n0_; have HB := n1_; clear n0_ n1_; clear hb ho6; have p3 : 0 ≤ (0 : Int) := (by omega); have q3 : (0 : Int) < ((y116.length : Int) : Int) := of_decide_eq_true (by first | (with_reducible assumption) | assumption); have qi3 : (0 < y116.length) = True := eq_true (by omega); obtain ⟨go3, co3, eo3, gb3, gl3, cl3, HG3⟩ := Kd.R_form HO118.out (by omega); (first | cases eo3 | (injection eo3 with ea_ en_ ec_; (first | subst ea_ | (injection ea_ with ea_; subst ea_)); subst ec_; clear en_)); have GB3 := Aside0.mk gb3; have GG3 := Aside0.mk HG3; clear gb3 gl3 HG3; obtain ⟨hx3_0, hf3_0⟩ := Kd.R_celln 0 HO118.out (0 : Int) p3 q3; (try rw [show ((0 : Int)).toNat = 0 from rfl] at hx3_0); (try simp only [Nat.reduceMul, Nat.zero_mul, Nat.zero_add, Nat.reduceAdd] at hx3_0); (try rw [show ((0 : Int)).toNat = 0 from rfl] at hf3_0); (try simp only [Nat.reduceMul, Nat.zero_mul, Nat.zero_add, Nat.reduceAdd] at hf3_0); replace p3 := eq_true p3; replace q3 := eq_true q3; obtain ⟨hy7_, hz7_⟩ := Kd.R_celln 0 HO118.out (0 : Int) (by omega) (of_decide_eq_true (by first | (with_reducible assumption) | assumption)); (try simp only [Int.reduceToNat, Int.toNat_zero, Int.toNat_ofNat, Nat.reduceMul, Nat.zero_mul, Nat.zero_add] at hy7_ hz7_); (try rw [show ((0 : Int)).toNat = 0 from rfl] at hy7_); (try rw [show ((0 : Int)).toNat = 0 from rfl] at hz7_); have HP7 := Kd.R_putg HO118.out (0 : Int) (-1)) | ((with_reducible refine gate_store (t := 3) (p := 6) rfl ?_); refine store_event (t := 3) (p := 6) (v := ?vo_w8) (w1 := (w5.setCell ⟨go3, (0 : Int).toNat, none⟩ (.int .i64 (-1)))) ?hg ?ho ?hn ?hr ?_; (case ho => rfl); (case hg => rfl); (case hn => rfl); (case hr => first | (go_simp; done) | (go_simp; rfl)); intro w8 hw; have hg : w5.grownBy w8 (some go3) := (by rw [hw]; exact HP7.2); have hp_ : Kd.R (Kd.int .i64) 3 w8 w.heap.size (fun _ => True) (.slice (some ⟨go3, 0, none⟩) y116.length co3) y119 := (by rw [hw, Ny119.out]; exact HP7.1); clear HP7; have n0_ := Aside0.mk (hp_); have n1_ := Aside0.mk ((by rw [hw]; exact below_set (HB.out) GB3.out : Below w.heap.size w w8)); clear HO118; clear HB; have HO118 := n0_; have HB := n1_; clear n0_ n1_; clear hg hw hp_) | ((with_reducible refine gate_callee (f := 51) rfl ?_); refine goesL_ (some 7) rfl rfl Try.func51 (by kernel_rfl) rfl #[] rfl (by (try simp only [List.map_toArray, List.map_cons, List.map_nil]); first | done | rfl | (simp only [tb_wrap8]; done) | (simp only [tb_wrap8]; rfl) | (simp only [List.length_drop, List.length_take]; rfl)) ?_; (with_reducible refine (culletref03_Exps.calls k  t120 _ A4.out).mono ?_); rintro e w9 ⟨v121, rfl, ho0, hb⟩; refine ⟨_, rfl, ?_⟩; have n0_ := Aside0.mk (Kd.R_below (by (with_reducible repeat (first | apply Kd.R_alloc | apply Kd.R_drewN | apply Kd.R_drew)); exact HO118.out) hb); have n1_ := Aside0.mk (Kd.R_lower ho0 (below_size (by repeat (first | (with_reducible first | exact HB.out | apply below_alloc | apply pw_below_drewN | apply below_drew1) | exact HB.out)))); have n2_ := Aside0.mk (below_step (by repeat (first | (with_reducible first | exact HB.out | apply below_alloc | apply pw_below_drewN | apply below_drew1) | exact HB.out)) hb); clear HO118; clear HB; have HO118 := n0_; have HO122 := n1_; have HB := n2_; clear n0_ n1_ n2_; (try clear hb); (try clear hb2); (try clear hk); (try clear hi); (try clear ho0); obtain ⟨Ao10, co10, eo10⟩ := Kd.R_slice HO122.out; subst eo10))
   go_loopg [9] k (fun kq v9 w' => ∃ (x1_1 : List Int) (x9_1 : Int), v9 = .int .i64 x9_1 ∧ Aside0 (culletref03_LogList.l0 kq x1_1 t120 (t120.length : Int) x9_1 = some r) ∧ Aside0 (kq ≤ k) ∧ Aside0 (Kd.R (Kd.int .i64) 3 w' w.heap.size (fun _ => True) (.slice (some ⟨go3, 0, none⟩) y116.length co3) x1_1) ∧ Aside0 (Kd.R (Kd.int .u16) 33 w' w.heap.size (fun _ => True) (.slice Ao10 t120.length co10) t120) ∧ Aside0 (Below w.heap.size w w'))
   case atStart => exact ⟨(y119), (0), (by first | rfl | (simp; done) | (simp [*]; done)), H', ⟨Nat.le_refl _⟩, ⟨by (with_reducible repeat (first | apply Kd.R_alloc | apply Kd.R_drewN | apply Kd.R_drew)); exact HO118.out⟩, ⟨by (with_reducible repeat (first | apply Kd.R_alloc | apply Kd.R_drewN | apply Kd.R_drew)); exact HO122.out⟩, ⟨by repeat (first | (with_reducible first | exact HB.out | apply below_alloc | apply pw_below_drewN | apply below_drew1) | exact HB.out)⟩⟩
   case round =>
    clear H'
    try clear c1
    try clear c1b0
    try clear c1b1
    try clear c2
    try clear c2b0
    try clear c2b1
    try clear p2
    try clear p3
    try clear q3
    try clear hx3
    try clear qi3
    try clear hf3
    try clear c4
    try clear c5
    try clear p8
    try clear hx3_0
    try clear p3
    try clear q3
    obtain ⟨x1_1, x9_1, rfl, HA, HK1, HO_1, HO_7, HB⟩ := hrel
    have hl1_1 := (Kd.R_reads' HO_1.out).1
    rw [hl1_1] at HO_1
    (try simp only [hl1_1])
    (try simp only [hl1_1] at HO_7)
    cases gk with
    | zero => exact absurd HA.out (by simp [culletref03_LogList.l0])
    | succ k1 =>
     have H := HA.out
     clear HA
     simp only [culletref03_LogList.l0] at H
     by_cases c11 : x9_1 < (t120.length : Int)
     ·rw [if_pos c11] at H
      have c11b0 : decide (x9_1 < (t120.length : Int)) = true := decide_eq_true c11
      (try simp only [hl1_1] at c11b0)
      clear c11
      by_cases c12 : 0 ≤ x9_1
      ·rw [if_pos c12] at H
       have c12b0 : decide (0 ≤ x9_1) = true := decide_eq_true c12
       (try simp only [hl1_1] at c12b0)
       clear c12
       by_cases c13 : x9_1 < (t120.length : Int)
       ·rw [if_pos c13] at H
        have c13b0 : decide (x9_1 < (t120.length : Int)) = true := decide_eq_true c13
        (try simp only [hl1_1] at c13b0)
        clear c13
        by_cases c14 : 0 ≤ (rd t120 x9_1)
        ·rw [if_pos c14] at H
         have c14b0 : decide (0 ≤ (rd t120 x9_1)) = true := decide_eq_true c14
         (try simp only [hl1_1] at c14b0)
         clear c14
         by_cases c15 : (rd t120 x9_1) < (x1_1.length : Int)
         ·rw [if_pos c15] at H
          have c15b0 : decide ((rd t120 x9_1) < (x1_1.length : Int)) = true := decide_eq_true c15
          (try simp only [hl1_1] at c15b0)
          clear c15
          obtain ⟨y124, hy124⟩ : ∃ y_ : List Int, y_ = (x1_1.set ((rd t120 x9_1) : Int).toNat x9_1) := ⟨_, rfl⟩
          replace H : (culletref03_LogList.l0 k1 y124 t120 (t120.length : Int) (wrap64 (x9_1 + 1))) = some r := by first | (rw [hy124]; with_reducible exact H) | (have H2_ := (Option.bind_some _ _).symm.trans H; rw [hy124]; with_reducible exact H2_) | (have H2_ := (Option.bind_some _ _).symm.trans H; with_reducible exact H2_) | with_reducible exact H | (rw [hy124]; exact H) | exact H
          have Ny124 := Aside0.mk hy124
          clear hy124
          have H' := Aside0.mk H
          clear H
          have p123 : 0 ≤ (x9_1 : Int) := of_decide_eq_true (by first | (with_reducible assumption) | assumption)
          have q123 : x9_1 < (t120.length : Int) := of_decide_eq_true (by first | (with_reducible assumption) | assumption)
          obtain ⟨ad123, e123, hx123_0⟩ := Kd.at_int (Kd.R_reads' HO_7.out).2.2 x9_1 p123 q123
          cases e123
          replace p123 := eq_true p123
          replace q123 := eq_true q123
          have p16 : 0 ≤ ((rd t120 x9_1) : Int) := of_decide_eq_true (by first | (with_reducible assumption) | assumption)
          have q16 : ((rd t120 x9_1) : Int) < ((x1_1.length : Int) : Int) := of_decide_eq_true (by first | (with_reducible assumption) | assumption)
          obtain ⟨hx16_0, hf16_0⟩ := Kd.R_celln 0 HO_1.out ((rd t120 x9_1) : Int) p16 q16
          replace p16 := eq_true p16
          replace q16 := eq_true q16
          have HP17 := Kd.R_putg HO_1.out ((rd t120 x9_1) : Int) x9_1
          go_wp2_with (first | ((with_reducible refine gate_store (t := 3) (p := 17) rfl ?_); refine store_event (t := 3) (p := 17) (v := ?vo_w18) (w1 := (wr.setCell ⟨go3, ((rd t120 x9_1) : Int).toNat, none⟩ (.int .i64 x9_1))) ?hg ?ho ?hn ?hr ?_; (case ho => rfl); (case hg => rfl); (case hn => rfl); (case hr => first | (go_simp; done) | (go_simp; rfl)); intro w18 hw; have hg : wr.grownBy w18 (some go3) := (by rw [hw]; exact HP17.2); have hp_ : Kd.R (Kd.int .i64) 3 w18 w.heap.size (fun _ => True) (.slice (some ⟨go3, 0, none⟩) x1_1.length co3) y124 := (by rw [hw, Ny124.out]; exact HP17.1); clear HP17; have n0_ := Aside0.mk (hp_); have n1_ := Aside0.mk (Kd.R_over' (v := (.slice (some ⟨go3, 0, none⟩) x1_1.length co3)) (by (with_reducible repeat (first | apply Kd.R_alloc | apply Kd.R_drewN | apply Kd.R_drew)); exact HO_7.out) (Kd.R_typed HO_1.out) (by decide) hg); have n2_ := Aside0.mk ((by rw [hw]; exact below_set (HB.out) GB3.out : Below w.heap.size w w18)); clear HO_1; clear HO_7; clear HB; have HO_1 := n0_; have HO_7 := n1_; have HB := n2_; clear n0_ n1_ n2_; clear hg hw hp_))
          (try simp only [← hl1_1])
          go_roundg k1
          case measure => have := HK1.out; omega
          case rel => exact ⟨(y124), (wrap64 (x9_1 + 1)), (by first | rfl | (simp; done) | (simp [*]; done)), H', ⟨by have := HK1.out; omega⟩, ⟨by (try simp only [hl1_1]); (with_reducible repeat (first | apply Kd.R_alloc | apply Kd.R_drewN | apply Kd.R_drew)); exact HO_1.out⟩, ⟨by (try simp only [hl1_1]); (with_reducible repeat (first | apply Kd.R_alloc | apply Kd.R_drewN | apply Kd.R_drew)); exact HO_7.out⟩, ⟨by repeat (first | (with_reducible first | exact HB.out | apply below_alloc | apply pw_below_drewN | apply below_drew1) | exact HB.out)⟩⟩
         ·rw [if_neg c15] at H
          exact absurd H (by simp)
        ·rw [if_neg c14] at H
         exact absurd H (by simp)
       ·rw [if_neg c13] at H
        exact absurd H (by simp)
      ·rw [if_neg c12] at H
       exact absurd H (by simp)
     ·rw [if_neg c11] at H
      have c11b0 : decide (x9_1 < (t120.length : Int)) = false := decide_eq_false c11
      (try simp only [hl1_1] at c11b0)
      clear c11
      obtain rfl := Option.some.inj H
      go_wp2
      go_ret
      exact ⟨_, by first | rfl | (simp [errW_none, errW_some] <;> rfl) | (simp [*, errW_none, errW_some] <;> rfl), by (with_reducible repeat (first | apply Kd.R_alloc | apply Kd.R_drewN | apply Kd.R_drew)); exact HO_1.out, by repeat (first | (with_reducible first | exact HB.out | apply below_alloc | apply pw_below_drewN | apply below_drew1) | exact HB.out)⟩
  ·rw [if_neg c2] at H
   exact absurd H (by simp)
 ·rw [if_neg c1] at H
  exact absurd H (by simp)

end Go.Proofs.Ytklkcenffajfeaa.F
