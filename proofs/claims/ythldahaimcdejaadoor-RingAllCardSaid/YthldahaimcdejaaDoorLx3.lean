import Derived.Test.YthldahaimcdejaaDoorLx0
-- Printed for this claim by mp.py, a program of its prover, through the kit's print. Lean checks it.
namespace Go.Proofs.YthldahaimcdejaaDoor.L
open Go.RowKit Go.Proofs.YthldahaimcdejaaDoorW.PrintWords Go.Proofs.YthldahaimcdejaaDoorW.PrintLast Go.Proofs.YthldahaimcdejaaDoorW.PrintMore Go.Proofs.YthldahaimcdejaaDoor.A
attribute [local go_sem] max2_int min2_int max_two min_two max_three min_three max_four min_four   -- for this text's walks alone
set_option linter.unusedVariables false
set_option linter.unusedSimpArgs false

/-! ### culletlaw01_texts: function 47 -/
def culletlaw01_texts.f (a0_0 : Int) (a0_1 : Int) (a0_2 : Int) (a0_3 : Int) (a0_4 : ByteArray) : Option (Bool) := if a0_0 = 12 then ((ring_Text.f a0_1).bind fun t159 => ((culletref01_Text.f a0_1).bind fun t160 => (some (t159.toList == t160.toList)))) else ((ring_Parse.f a0_4).bind fun bt161 => ((culletref01_Parse.f a0_4).bind fun bt163 => (if bt161.1 = bt163.1 then (some (bt161.2 == bt163.2)) else (some false))))
def culletlaw01_texts.T2 : Bool × List (List Nat × List Nat) := (true, [([], []), ([0], [0]), ([1], [1]), ([], []), ([3], [3]), ([4, 2], [4]), ([2, 5], [2, 5]), ([6, 5, 0, 1, 2, 3, 4, 5, 6], [6])])
def culletlaw01_texts.B2 : List Nat := [0, 1, 3, 0, 8, 31, 63, 127]
theorem culletlaw01_texts.tab2 : rtab .any (opsOf Tryd.f47 2) = culletlaw01_texts.T2 := by kernel_rfl
theorem culletlaw01_texts.bits2 : waitsOk culletlaw01_texts.T2.2 culletlaw01_texts.B2 = true := by kernel_rfl
set_option maxHeartbeats 8000000 in
set_option maxRecDepth 100000 in
theorem culletlaw01_texts.calls (a0_0 : Int) (a0_1 : Int) (a0_2 : Int) (a0_3 : Int) (a0_4 : ByteArray) (r : Bool) (w : World) (h : culletlaw01_texts.f a0_0 a0_1 a0_2 a0_3 a0_4 = some r) :
  Calls Tryd.prog 47 #[.agg #[.int .i64 a0_0, .int .u64 a0_1, .int .u64 a0_2, .int .u64 a0_3, .string a0_4]] w fun e w' => e = .returned (.bool r) ∧ Below w.heap.size w w' := by
 have hu26 := Tryd.underlying26
 have HB := Aside0.mk (Below.refl w.heap.size w)
 have H : (if a0_0 = 12 then ((ring_Text.f a0_1).bind fun t159 => ((culletref01_Text.f a0_1).bind fun t160 => (some (t159.toList == t160.toList)))) else ((ring_Parse.f a0_4).bind fun bt161 => ((culletref01_Parse.f a0_4).bind fun bt163 => (if bt161.1 = bt163.1 then (some (bt161.2 == bt163.2)) else (some false))))) = some r := h
 clear h
 by_cases c2 : a0_0 = 12
 ·rw [if_pos c2] at H
  have c2b0 : (a0_0 == 12) = true := beq_iff_eq.mpr c2
  have c2b1 : (a0_0 != 12) = false := bne_eq_false_iff_eq.mpr c2
  clear c2
  replace H := Option.bind_eq_some_iff.mp H
  obtain ⟨t159, A30, H⟩ := H
  replace H : ((culletref01_Text.f a0_1).bind fun t160 => (some (t159.toList == t160.toList))) = some r := H
  have A3 := Aside0.mk A30
  clear A30
  replace H := Option.bind_eq_some_iff.mp H
  obtain ⟨t160, A40, H⟩ := H
  replace H : (some (t159.toList == t160.toList)) = some r := H
  have A4 := Aside0.mk A40
  clear A40
  obtain rfl := Option.some.inj H
  go_enter Tryd.func47, Tryd.ntmps47
  try go_wp2_with (first | ((with_reducible refine gate_dst (N := 1) rfl ?_); refine box_event ?hg (N := 1) ?hd (cs := #[.int .i64 a0_0, .int .u64 a0_1, .int .u64 a0_2, .int .u64 a0_3, .string a0_4]) (t := 26) ?hr ?_; (case hd => rfl); (case hg => rfl); (case hr => first | (go_simp; done) | (go_simp; rfl)); intro gb158 hg w5 hbox hb; have n0_ := Aside0.mk (below_step (by repeat (first | (with_reducible first | exact HB.out | apply below_alloc | apply pw_below_drewN | apply below_drew1) | exact HB.out)) hb); have n1_ := Aside0.mk (hbox); have n2_ := Aside0.mk ((by rw [hg]; exact (below_size (by repeat (first | (with_reducible first | exact HB.out | apply below_alloc | apply pw_below_drewN | apply below_drew1) | exact HB.out))) : w.heap.size ≤ gb158)); have n3_ := Aside0.mk ((by rw [hg]; exact (below_size (by repeat (first | (with_reducible first | exact HB.out | apply below_alloc | apply pw_below_drewN | apply below_drew1) | exact HB.out))) : w.heap.size ≤ gb158)); clear HB; have HB := n0_; have BK158 := n1_; have GW158 := n2_; have GE158 := n3_; clear n0_ n1_ n2_ n3_; clear hb hbox hg; have hcz6_0 : w5.cell? ⟨gb158, 0, none⟩ = some (.int .i64 a0_0) := (blk_cell BK158.out 0).trans rfl; have hcz6_1 : w5.cell? ⟨gb158, 1, none⟩ = some (.int .u64 a0_1) := (blk_cell BK158.out 1).trans rfl; have hcz6_2 : w5.cell? ⟨gb158, 2, none⟩ = some (.int .u64 a0_2) := (blk_cell BK158.out 2).trans rfl; have hcz6_3 : w5.cell? ⟨gb158, 3, none⟩ = some (.int .u64 a0_3) := (blk_cell BK158.out 3).trans rfl; have hcz6_4 : w5.cell? ⟨gb158, 4, none⟩ = some (.string a0_4) := (blk_cell BK158.out 4).trans rfl; have hfz6_0 := blk_frozen BK158.out 0; have hfz6_1 := blk_frozen BK158.out 1; have hfz6_2 := blk_frozen BK158.out 2; have hfz6_3 := blk_frozen BK158.out 3; have hfz6_4 := blk_frozen BK158.out 4))
  have n0_ := Aside0.mk (blk_drew BK158.out)
  have n1_ := Aside0.mk (below_drew1 HB.out)
  clear BK158
  clear HB
  have BK158 := n0_
  have HB := n1_
  clear n0_ n1_
  refine start_ (n := 8) (S := fun w' => w'.cell? ⟨gb158, 0, none⟩ = some (.int .i64 a0_0) ∧ w'.cell? ⟨gb158, 1, none⟩ = some (.int .u64 a0_1) ∧ w'.cell? ⟨gb158, 2, none⟩ = some (.int .u64 a0_2) ∧ w'.cell? ⟨gb158, 3, none⟩ = some (.int .u64 a0_3) ∧ w'.cell? ⟨gb158, 4, none⟩ = some (.string a0_4)) (ds := []) #[false, false, false, false, false, false, false, false] (by kernel_rfl) rfl rfl ⟨(blk_cell BK158.out 0).trans rfl, (blk_cell BK158.out 1).trans rfl, (blk_cell BK158.out 2).trans rfl, (blk_cell BK158.out 3).trans rfl, (blk_cell BK158.out 4).trans rfl⟩ (fun hHeld => ?_); refine with_tabW culletlaw01_texts.tab2 culletlaw01_texts.bits2 (fun HT_ HW_ => ?_)
  generalize w5.drew = w7 at BK158 HB hHeld ⊢
  refine pure_ (i := 0) (N := some 10) (v := ?_) (a' := ?_) #[true, false, false, false, false, false, false, false] rfl rfl (any_of HT_.out (by kernel_rfl)) (fun _ _ _ h => h) (Or.inl ⟨by rfl, ?_⟩) ?_ ?_
  rotate_left
  ·intro w'
   go_simp
   with_reducible rfl
  rotate_left
  ·simp only [Act.put, List.setIfInBounds_toArray, List.set_cons_zero, List.set_cons_succ, i64_w, i32_w]
   rfl
  refine pure_ (i := 3) (N := some 13) (v := ?_) (a' := ?_) #[true, false, false, true, false, false, false, false] rfl rfl (any_of HT_.out (by kernel_rfl)) (fun _ _ _ h => h) (Or.inl ⟨by rfl, ?_⟩) ?_ ?_
  rotate_left
  ·intro w'
   go_simp
   with_reducible rfl
  rotate_left
  ·simp only [Act.put, List.setIfInBounds_toArray, List.set_cons_zero, List.set_cons_succ, i64_w, i32_w]
   rfl
  refine take_ (i := 1) (N := some 11) (v := ?_) (a' := ?_) #[true, true, false, true, false, false, false, false] rfl rfl (take_ofW HT_.out HW_.out (by kernel_rfl)) (fun _ _ _ h => h) (Or.inl ⟨by rfl, ?_⟩) hHeld ?_ ?_
  rotate_left
  ·rintro w' ⟨s0, s1, s2, s3, s4⟩
   go_simp
   with_reducible rfl
  rotate_left
  ·simp only [Act.put, List.setIfInBounds_toArray, List.set_cons_zero, List.set_cons_succ, i64_w, i32_w]
   rfl
  refine take_ (i := 4) (N := some 14) (v := ?_) (a' := ?_) #[true, true, false, true, true, false, false, false] rfl rfl (take_ofW HT_.out HW_.out (by kernel_rfl)) (fun _ _ _ h => h) (Or.inl ⟨by rfl, ?_⟩) hHeld ?_ ?_
  rotate_left
  ·rintro w' ⟨s0, s1, s2, s3, s4⟩
   go_simp
   with_reducible rfl
  rotate_left
  ·simp only [Act.put, List.setIfInBounds_toArray, List.set_cons_zero, List.set_cons_succ, i64_w, i32_w]
   rfl
  refine one_ (i := 2) (N := some 12) #[true, true, true, true, true, false, false, false] rfl rfl (one_of HT_.out (by kernel_rfl)) (by decide) (fun K hK => ?_)
  refine goes_ Tryd.func16 (by kernel_rfl) rfl #[.int .u64 a0_1] (by rfl) rfl rfl (by (try simp only [List.map_toArray, List.map_cons, List.map_nil]); first | done | rfl | (simp only [tb_wrap8]; done) | (simp only [tb_wrap8]; rfl) | (simp only [List.length_drop, List.length_take]; rfl)) ?_
  with_reducible refine (ring_Text.calls a0_1 t159 _ A3.out).mono ?_
  rintro e w8 ⟨rfl, hb⟩
  refine ⟨_, rfl, ?_⟩
  have n0_ := Aside0.mk (blk_below (g := gb158) (o := .cells #[.int .i64 a0_0, .int .u64 a0_1, .int .u64 a0_2, .int .u64 a0_3, .string a0_4] 26 (0, 0)) (by (with_reducible repeat (first | refine blk_drewN ?_ _ | refine blk_drew ?_ | refine blk_alloc ?_ _)); exact BK158.out) hb)
  have n1_ := Aside0.mk (below_step (by repeat (first | (with_reducible first | exact HB.out | apply below_alloc | apply pw_below_drewN | apply below_drew1 | refine below_set ?_ GE158.out) | exact HB.out)) hb)
  clear BK158
  clear HB
  have BK158 := n0_
  have HB := n1_
  clear n0_ n1_
  (try clear hb)
  (try clear hb2)
  (try clear hk)
  (try clear hi)
  refine hK.out _ _ ⟨(blk_cell BK158.out 0).trans rfl, (blk_cell BK158.out 1).trans rfl, (blk_cell BK158.out 2).trans rfl, (blk_cell BK158.out 3).trans rfl, (blk_cell BK158.out 4).trans rfl⟩ (fun hHeld => ?_)
  clear hK K
  refine norm_ (a' := ?_) ?_ ?_
  rotate_left
  ·show Act.put _ (some 12) _ = _
   simp only [Act.put, List.setIfInBounds_toArray, List.set_cons_zero, List.set_cons_succ, i64_w, i32_w]
   rfl
  refine one_ (i := 5) (N := some 15) #[true, true, true, true, true, true, false, false] rfl rfl (one_of HT_.out (by kernel_rfl)) (by decide) (fun K hK => ?_)
  refine goes_ Tryd.func57 (by kernel_rfl) rfl #[.int .u64 a0_1] (by rfl) rfl rfl (by (try simp only [List.map_toArray, List.map_cons, List.map_nil]); first | done | rfl | (simp only [tb_wrap8]; done) | (simp only [tb_wrap8]; rfl) | (simp only [List.length_drop, List.length_take]; rfl)) ?_
  with_reducible refine (culletref01_Text.calls a0_1 t160 _ A4.out).mono ?_
  rintro e w9 ⟨rfl, hb⟩
  refine ⟨_, rfl, ?_⟩
  have n0_ := Aside0.mk (blk_below (g := gb158) (o := .cells #[.int .i64 a0_0, .int .u64 a0_1, .int .u64 a0_2, .int .u64 a0_3, .string a0_4] 26 (0, 0)) (by (with_reducible repeat (first | refine blk_drewN ?_ _ | refine blk_drew ?_ | refine blk_alloc ?_ _)); exact BK158.out) hb)
  have n1_ := Aside0.mk (below_step (by repeat (first | (with_reducible first | exact HB.out | apply below_alloc | apply pw_below_drewN | apply below_drew1 | refine below_set ?_ GE158.out) | exact HB.out)) hb)
  clear BK158
  clear HB
  have BK158 := n0_
  have HB := n1_
  clear n0_ n1_
  (try clear hb)
  (try clear hb2)
  (try clear hk)
  (try clear hi)
  refine hK.out _ _ ⟨(blk_cell BK158.out 0).trans rfl, (blk_cell BK158.out 1).trans rfl, (blk_cell BK158.out 2).trans rfl, (blk_cell BK158.out 3).trans rfl, (blk_cell BK158.out 4).trans rfl⟩ (fun hHeld => ?_)
  clear hK K
  refine norm_ (a' := ?_) ?_ ?_
  rotate_left
  ·show Act.put _ (some 15) _ = _
   simp only [Act.put, List.setIfInBounds_toArray, List.set_cons_zero, List.set_cons_succ, i64_w, i32_w]
   rfl
  refine pure_ (i := 6) (N := some 16) (v := ?_) (a' := ?_) #[true, true, true, true, true, true, true, false] rfl rfl (any_of HT_.out (by kernel_rfl)) (fun _ _ _ h => h) (Or.inl ⟨by rfl, ?_⟩) ?_ ?_
  rotate_left
  ·intro w'
   go_simp
   with_reducible rfl
  rotate_left
  ·simp only [Act.put, List.setIfInBounds_toArray, List.set_cons_zero, List.set_cons_succ, i64_w, i32_w]
   rfl
  refine pure_ (i := 7) (N := some 2) (v := ?_) (a' := ?_) #[true, true, true, true, true, true, true, true] rfl rfl (any_of HT_.out (by kernel_rfl)) (fun _ _ _ h => h) (Or.inl ⟨by rfl, ?_⟩) ?_ ?_
  rotate_left
  ·intro w'
   go_simp
   with_reducible rfl
  rotate_left
  ·simp only [Act.put, List.setIfInBounds_toArray, List.set_cons_zero, List.set_cons_succ, i64_w, i32_w]
   rfl
  refine done_ (done_of HT_.out (by kernel_rfl)) ?_
  try go_wp2
  go_ret
  exact ⟨by first | rfl | (simp [errW_none, errW_some] <;> rfl) | (simp [*, errW_none, errW_some] <;> rfl), by repeat (first | (with_reducible first | exact HB.out | apply below_alloc | apply pw_below_drewN | apply below_drew1 | refine below_set ?_ GE158.out) | exact HB.out)⟩
 ·rw [if_neg c2] at H
  have c2b0 : (a0_0 == 12) = false := beq_eq_false_iff_ne.mpr c2
  have c2b1 : (a0_0 != 12) = true := bne_iff_ne.mpr c2
  replace H := Option.bind_eq_some_iff.mp H
  obtain ⟨⟨t161, t162⟩, A100, H⟩ := H
  replace H : ((culletref01_Parse.f a0_4).bind fun bt163 => (if t161 = bt163.1 then (some (t162 == bt163.2)) else (some false))) = some r := H
  have A10 := Aside0.mk A100
  clear A100
  replace H := Option.bind_eq_some_iff.mp H
  obtain ⟨⟨t163, t164⟩, A110, H⟩ := H
  replace H : (if t161 = t163 then (some (t162 == t164)) else (some false)) = some r := H
  have A11 := Aside0.mk A110
  clear A110
  by_cases c12 : t161 = t163
  ·rw [if_pos c12] at H
   have c12b0 : (t161 == t163) = true := beq_iff_eq.mpr c12
   have c12b1 : (t161 != t163) = false := bne_eq_false_iff_eq.mpr c12
   clear c12
   obtain rfl := Option.some.inj H
   go_enter Tryd.func47, Tryd.ntmps47
   go_wp2_with (first | ((with_reducible refine gate_dst (N := 1) rfl ?_); refine box_event ?hg (N := 1) ?hd (cs := #[.int .i64 a0_0, .int .u64 a0_1, .int .u64 a0_2, .int .u64 a0_3, .string a0_4]) (t := 26) ?hr ?_; (case hd => rfl); (case hg => rfl); (case hr => first | (go_simp; done) | (go_simp; rfl)); intro gb158 hg w13 hbox hb; have n0_ := Aside0.mk (below_step (by repeat (first | (with_reducible first | exact HB.out | apply below_alloc | apply pw_below_drewN | apply below_drew1) | exact HB.out)) hb); have n1_ := Aside0.mk (hbox); have n2_ := Aside0.mk ((by rw [hg]; exact (below_size (by repeat (first | (with_reducible first | exact HB.out | apply below_alloc | apply pw_below_drewN | apply below_drew1) | exact HB.out))) : w.heap.size ≤ gb158)); have n3_ := Aside0.mk ((by rw [hg]; exact (below_size (by repeat (first | (with_reducible first | exact HB.out | apply below_alloc | apply pw_below_drewN | apply below_drew1) | exact HB.out))) : w.heap.size ≤ gb158)); clear HB; have HB := n0_; have BK158 := n1_; have GW158 := n2_; have GE158 := n3_; clear n0_ n1_ n2_ n3_; clear hb hbox hg; have hcz14_0 : w13.cell? ⟨gb158, 0, none⟩ = some (.int .i64 a0_0) := (blk_cell BK158.out 0).trans rfl; have hcz14_1 : w13.cell? ⟨gb158, 1, none⟩ = some (.int .u64 a0_1) := (blk_cell BK158.out 1).trans rfl; have hcz14_2 : w13.cell? ⟨gb158, 2, none⟩ = some (.int .u64 a0_2) := (blk_cell BK158.out 2).trans rfl; have hcz14_3 : w13.cell? ⟨gb158, 3, none⟩ = some (.int .u64 a0_3) := (blk_cell BK158.out 3).trans rfl; have hcz14_4 : w13.cell? ⟨gb158, 4, none⟩ = some (.string a0_4) := (blk_cell BK158.out 4).trans rfl; have hfz14_0 := blk_frozen BK158.out 0; have hfz14_1 := blk_frozen BK158.out 1; have hfz14_2 := blk_frozen BK158.out 2; have hfz14_3 := blk_frozen BK158.out 3; have hfz14_4 := blk_frozen BK158.out 4) | ((with_reducible refine gate_callee (f := 58) rfl ?_); refine goesL_ (some 20) rfl rfl Tryd.func58 (by kernel_rfl) rfl #[.string a0_4] rfl (by (try simp only [List.map_toArray, List.map_cons, List.map_nil]); first | done | rfl | (simp only [tb_wrap8]; done) | (simp only [tb_wrap8]; rfl) | (simp only [List.length_drop, List.length_take]; rfl)) ?_; (with_reducible refine (ring_Parse.calls a0_4 t161 t162 _ A10.out).mono ?_); rintro e w15 ⟨rfl, hb⟩; refine ⟨_, rfl, ?_⟩; have n0_ := Aside0.mk (blk_below (g := gb158) (o := .cells #[.int .i64 a0_0, .int .u64 a0_1, .int .u64 a0_2, .int .u64 a0_3, .string a0_4] 26 (0, 0)) (by (with_reducible repeat (first | refine blk_drewN ?_ _ | refine blk_drew ?_ | refine blk_alloc ?_ _)); exact BK158.out) hb); have n1_ := Aside0.mk (below_step (by repeat (first | (with_reducible first | exact HB.out | apply below_alloc | apply pw_below_drewN | apply below_drew1 | refine below_set ?_ GE158.out) | exact HB.out)) hb); clear BK158; clear HB; have BK158 := n0_; have HB := n1_; clear n0_ n1_; (try clear hb); (try clear hb2); (try clear hk); (try clear hi); have hcz16_0 : w15.cell? ⟨gb158, 0, none⟩ = some (.int .i64 a0_0) := (blk_cell BK158.out 0).trans rfl; have hcz16_1 : w15.cell? ⟨gb158, 1, none⟩ = some (.int .u64 a0_1) := (blk_cell BK158.out 1).trans rfl; have hcz16_2 : w15.cell? ⟨gb158, 2, none⟩ = some (.int .u64 a0_2) := (blk_cell BK158.out 2).trans rfl; have hcz16_3 : w15.cell? ⟨gb158, 3, none⟩ = some (.int .u64 a0_3) := (blk_cell BK158.out 3).trans rfl; have hcz16_4 : w15.cell? ⟨gb158, 4, none⟩ = some (.string a0_4) := (blk_cell BK158.out 4).trans rfl; have hfz16_0 := blk_frozen BK158.out 0; have hfz16_1 := blk_frozen BK158.out 1; have hfz16_2 := blk_frozen BK158.out 2; have hfz16_3 := blk_frozen BK158.out 3; have hfz16_4 := blk_frozen BK158.out 4) | ((with_reducible refine gate_callee (f := 59) rfl ?_); refine goesL_ (some 26) rfl rfl Tryd.func59 (by kernel_rfl) rfl #[.string a0_4] rfl (by (try simp only [List.map_toArray, List.map_cons, List.map_nil]); first | done | rfl | (simp only [tb_wrap8]; done) | (simp only [tb_wrap8]; rfl) | (simp only [List.length_drop, List.length_take]; rfl)) ?_; (with_reducible refine (culletref01_Parse.calls a0_4 t163 t164 _ A11.out).mono ?_); rintro e w17 ⟨rfl, hb⟩; refine ⟨_, rfl, ?_⟩; have n0_ := Aside0.mk (blk_below (g := gb158) (o := .cells #[.int .i64 a0_0, .int .u64 a0_1, .int .u64 a0_2, .int .u64 a0_3, .string a0_4] 26 (0, 0)) (by (with_reducible repeat (first | refine blk_drewN ?_ _ | refine blk_drew ?_ | refine blk_alloc ?_ _)); exact BK158.out) hb); have n1_ := Aside0.mk (below_step (by repeat (first | (with_reducible first | exact HB.out | apply below_alloc | apply pw_below_drewN | apply below_drew1 | refine below_set ?_ GE158.out) | exact HB.out)) hb); clear BK158; clear HB; have BK158 := n0_; have HB := n1_; clear n0_ n1_; (try clear hb); (try clear hb2); (try clear hk); (try clear hi)))
   go_ret
   exact ⟨by first | rfl | (simp [errW_none, errW_some] <;> rfl) | (simp [*, errW_none, errW_some] <;> rfl), by repeat (first | (with_reducible first | exact HB.out | apply below_alloc | apply pw_below_drewN | apply below_drew1 | refine below_set ?_ GE158.out) | exact HB.out)⟩
  ·rw [if_neg c12] at H
   have c12b0 : (t161 == t163) = false := beq_eq_false_iff_ne.mpr c12
   have c12b1 : (t161 != t163) = true := bne_iff_ne.mpr c12
   obtain rfl := Option.some.inj H
   go_enter Tryd.func47, Tryd.ntmps47
   go_wp2_with (first | ((with_reducible refine gate_dst (N := 1) rfl ?_); refine box_event ?hg (N := 1) ?hd (cs := #[.int .i64 a0_0, .int .u64 a0_1, .int .u64 a0_2, .int .u64 a0_3, .string a0_4]) (t := 26) ?hr ?_; (case hd => rfl); (case hg => rfl); (case hr => first | (go_simp; done) | (go_simp; rfl)); intro gb158 hg w18 hbox hb; have n0_ := Aside0.mk (below_step (by repeat (first | (with_reducible first | exact HB.out | apply below_alloc | apply pw_below_drewN | apply below_drew1) | exact HB.out)) hb); have n1_ := Aside0.mk (hbox); have n2_ := Aside0.mk ((by rw [hg]; exact (below_size (by repeat (first | (with_reducible first | exact HB.out | apply below_alloc | apply pw_below_drewN | apply below_drew1) | exact HB.out))) : w.heap.size ≤ gb158)); have n3_ := Aside0.mk ((by rw [hg]; exact (below_size (by repeat (first | (with_reducible first | exact HB.out | apply below_alloc | apply pw_below_drewN | apply below_drew1) | exact HB.out))) : w.heap.size ≤ gb158)); clear HB; have HB := n0_; have BK158 := n1_; have GW158 := n2_; have GE158 := n3_; clear n0_ n1_ n2_ n3_; clear hb hbox hg; have hcz19_0 : w18.cell? ⟨gb158, 0, none⟩ = some (.int .i64 a0_0) := (blk_cell BK158.out 0).trans rfl; have hcz19_1 : w18.cell? ⟨gb158, 1, none⟩ = some (.int .u64 a0_1) := (blk_cell BK158.out 1).trans rfl; have hcz19_2 : w18.cell? ⟨gb158, 2, none⟩ = some (.int .u64 a0_2) := (blk_cell BK158.out 2).trans rfl; have hcz19_3 : w18.cell? ⟨gb158, 3, none⟩ = some (.int .u64 a0_3) := (blk_cell BK158.out 3).trans rfl; have hcz19_4 : w18.cell? ⟨gb158, 4, none⟩ = some (.string a0_4) := (blk_cell BK158.out 4).trans rfl; have hfz19_0 := blk_frozen BK158.out 0; have hfz19_1 := blk_frozen BK158.out 1; have hfz19_2 := blk_frozen BK158.out 2; have hfz19_3 := blk_frozen BK158.out 3; have hfz19_4 := blk_frozen BK158.out 4) | ((with_reducible refine gate_callee (f := 58) rfl ?_); refine goesL_ (some 20) rfl rfl Tryd.func58 (by kernel_rfl) rfl #[.string a0_4] rfl (by (try simp only [List.map_toArray, List.map_cons, List.map_nil]); first | done | rfl | (simp only [tb_wrap8]; done) | (simp only [tb_wrap8]; rfl) | (simp only [List.length_drop, List.length_take]; rfl)) ?_; (with_reducible refine (ring_Parse.calls a0_4 t161 t162 _ A10.out).mono ?_); rintro e w20 ⟨rfl, hb⟩; refine ⟨_, rfl, ?_⟩; have n0_ := Aside0.mk (blk_below (g := gb158) (o := .cells #[.int .i64 a0_0, .int .u64 a0_1, .int .u64 a0_2, .int .u64 a0_3, .string a0_4] 26 (0, 0)) (by (with_reducible repeat (first | refine blk_drewN ?_ _ | refine blk_drew ?_ | refine blk_alloc ?_ _)); exact BK158.out) hb); have n1_ := Aside0.mk (below_step (by repeat (first | (with_reducible first | exact HB.out | apply below_alloc | apply pw_below_drewN | apply below_drew1 | refine below_set ?_ GE158.out) | exact HB.out)) hb); clear BK158; clear HB; have BK158 := n0_; have HB := n1_; clear n0_ n1_; (try clear hb); (try clear hb2); (try clear hk); (try clear hi); have hcz21_0 : w20.cell? ⟨gb158, 0, none⟩ = some (.int .i64 a0_0) := (blk_cell BK158.out 0).trans rfl; have hcz21_1 : w20.cell? ⟨gb158, 1, none⟩ = some (.int .u64 a0_1) := (blk_cell BK158.out 1).trans rfl; have hcz21_2 : w20.cell? ⟨gb158, 2, none⟩ = some (.int .u64 a0_2) := (blk_cell BK158.out 2).trans rfl; have hcz21_3 : w20.cell? ⟨gb158, 3, none⟩ = some (.int .u64 a0_3) := (blk_cell BK158.out 3).trans rfl; have hcz21_4 : w20.cell? ⟨gb158, 4, none⟩ = some (.string a0_4) := (blk_cell BK158.out 4).trans rfl; have hfz21_0 := blk_frozen BK158.out 0; have hfz21_1 := blk_frozen BK158.out 1; have hfz21_2 := blk_frozen BK158.out 2; have hfz21_3 := blk_frozen BK158.out 3; have hfz21_4 := blk_frozen BK158.out 4) | ((with_reducible refine gate_callee (f := 59) rfl ?_); refine goesL_ (some 26) rfl rfl Tryd.func59 (by kernel_rfl) rfl #[.string a0_4] rfl (by (try simp only [List.map_toArray, List.map_cons, List.map_nil]); first | done | rfl | (simp only [tb_wrap8]; done) | (simp only [tb_wrap8]; rfl) | (simp only [List.length_drop, List.length_take]; rfl)) ?_; (with_reducible refine (culletref01_Parse.calls a0_4 t163 t164 _ A11.out).mono ?_); rintro e w22 ⟨rfl, hb⟩; refine ⟨_, rfl, ?_⟩; have n0_ := Aside0.mk (blk_below (g := gb158) (o := .cells #[.int .i64 a0_0, .int .u64 a0_1, .int .u64 a0_2, .int .u64 a0_3, .string a0_4] 26 (0, 0)) (by (with_reducible repeat (first | refine blk_drewN ?_ _ | refine blk_drew ?_ | refine blk_alloc ?_ _)); exact BK158.out) hb); have n1_ := Aside0.mk (below_step (by repeat (first | (with_reducible first | exact HB.out | apply below_alloc | apply pw_below_drewN | apply below_drew1 | refine below_set ?_ GE158.out) | exact HB.out)) hb); clear BK158; clear HB; have BK158 := n0_; have HB := n1_; clear n0_ n1_; (try clear hb); (try clear hb2); (try clear hk); (try clear hi)))
   go_ret
   exact ⟨by first | rfl | (simp [errW_none, errW_some] <;> rfl) | (simp [*, errW_none, errW_some] <;> rfl), by repeat (first | (with_reducible first | exact HB.out | apply below_alloc | apply pw_below_drewN | apply below_drew1 | refine below_set ?_ GE158.out) | exact HB.out)⟩

end Go.Proofs.YthldahaimcdejaaDoor.L
