/- The document's division, walked by hand. -/
import Derived.Test.YthldahaimcdejaaDoorRD
import Derived.Test.YthldahaimcdejaaDoorRefRing
import Derived.Test.YthldahaimcdejaaDoorQuietC

namespace Go.Proofs.YthldahaimcdejaaDoor.A
open Go.RowKit Go.Deep Go.Proofs.YthldahaimcdejaaDoor.R Go.Proofs.YthldahaimcdejaaDoorW.PrintWords Go.Proofs.YthldahaimcdejaaDoorW.PrintLast Go.Proofs.YthldahaimcdejaaDoorW.PrintMore GP
set_option linter.unusedVariables false
set_option linter.unusedSimpArgs false
theorem cf_shift (b k x : Nat) : cf (b * 2 ^ k) x = if x < k then 0 else cf b (x - k) := by
  unfold cf
  rw [Nat.testBit_mul_two_pow]
  by_cases h : x < k
  · simp [h, show ¬ k ≤ x by omega]
  · simp [h, show k ≤ x by omega]
theorem cf_pow (k x : Nat) : cf (2 ^ k) x = if x = k then 1 else 0 := by
  unfold cf
  rw [Nat.testBit_two_pow]
  by_cases h : x = k
  · subst h; simp
  · simp [h, Ne.symm h]
/-- r while b times 2^k is being added to it, as far as j. -/
def rr (r b k j x : Nat) : Nat := if x < k + j then cf (r ^^^ b * 2 ^ k) x else cf r x
theorem rr_zero (r b k x : Nat) : rr r b k 0 x = cf r x := by
  unfold rr
  split
  · rw [cf_xor, cf_shift, if_pos (by omega)]; have := cf_le r x; omega
  · rfl
theorem rr_end {r b k d : Nat} (hd : bl b = d + 1) (x : Nat) : rr r b k (d + 1) x = cf (r ^^^ b * 2 ^ k) x := by
  unfold rr
  split
  · rfl
  · rw [cf_xor, cf_shift, if_neg (by omega)]
    have h0 : cf b (x - k) = 0 := by
      unfold cf
      rw [if_neg]
      intro e
      have := bl_of_bit e
      omega
    have := cf_le r x
    omega
theorem rr_next (r b k j x : Nat) : rr r b k (j + 1) x = if x = k + j then (cf r (k + j) + cf b j) % 2 else rr r b k j x := by
  unfold rr
  by_cases e : x = k + j
  · subst e
    rw [if_pos (by omega), if_pos rfl, cf_xor, cf_shift, if_neg (by omega), show k + j - k = j by omega]
  · rw [if_neg e]
    have : x < k + (j + 1) ↔ x < k + j := by omega
    simp only [this]
theorem rr_at (r b k j : Nat) : rr r b k j (k + j) = cf r (k + j) := by unfold rr; rw [if_neg (by omega)]
theorem q_set {q k : Nat} (h : q.testBit k = false) (x : Nat) : cf (q ^^^ 2 ^ k) x = if x = k then 1 else cf q x := by
  rw [cf_xor, cf_pow]
  by_cases e : x = k
  · subst e; simp only [if_true]; unfold cf; rw [h]; rfl
  · simp only [if_neg e]; have := cf_le q x; omega
theorem dm_succ {a b d k : Nat} (hk : k + 1 ≤ 64 - d) : dm a b d (64 - d - k) = if (dm a b d (64 - d - (k + 1))).2.testBit (k + d) then ((dm a b d (64 - d - (k + 1))).1 ^^^ 2 ^ k, (dm a b d (64 - d - (k + 1))).2 ^^^ b * 2 ^ k) else dm a b d (64 - d - (k + 1)) := by
  have e : 64 - d - k = (64 - d - (k + 1)) + 1 := by omega
  rw [e]
  show (if (dm a b d (64 - d - (k + 1))).2.testBit (63 - (64 - d - (k + 1))) then _ else _) = _
  rw [show 63 - (64 - d - (k + 1)) = k + d by omega, show 63 - d - (64 - d - (k + 1)) = k by omega]
set_option maxHeartbeats 4000000 in
set_option maxRecDepth 100000 in
theorem divmod_walk (a b : Nat) (ha : a < 2 ^ 64) (hb : b < 2 ^ 64) (hb0 : b ≠ 0) (w : World) : Calls Tryd.prog 22 #[.int .u64 (a : Int), .int .u64 (b : Int)] w fun e w' => e = .returned (.tuple #[.int .u64 ((pquo a b : Nat) : Int), .int .u64 ((pmod a b : Nat) : Int), .int .i64 0]) ∧ Below w.heap.size w w' := by
  obtain ⟨kd, hkd⟩ := (rdeg hb).rounds
  obtain ⟨d, hd⟩ : ∃ d, bl b = d + 1 := ⟨bl b - 1, by have := bl_pos.2 hb0; omega⟩
  have hd63 : d ≤ 63 := by have := bl_le.2 hb; omega
  rw [hd, show ((d + 1 : Nat) : Int) - 1 = (d : Int) by omega] at hkd
  have HA := Aside0.mk ha
  have HB := Aside0.mk hb
  have HD := Aside0.mk hd
  have HK := Aside0.mk hkd
  clear ha hb hb0 hd hkd
  go_enter Tryd.func22, Tryd.ntmps22
  go_wp2_with fail
  refine (culletref01_Degree.calls kd b d _ HK.out).mono ?_
  rintro _ w0 ⟨rfl, ⟨nd, rfl⟩⟩
  go_wp2_with fail
  refine (bits_walk a HA.out _).mono ?_
  rintro _ w1 ⟨rfl, B1'⟩
  have B1 := Aside0.mk (show Below w.heap.size w w1 from (pw_below_drewN (Below.refl _ _) nd).trans B1')
  clear B1'
  go_wp2_with (first
    | ((with_reducible refine gate_dst (N := 8) rfl ?_); refine box_event ?hg (N := 8) ?hd (cs := Z64) (t := 61) ?hr ?_; (case hd => rfl); (case hg => rfl); (case hr => go_simp; rfl); intro g8 hg8 w2 hb2 hB2; have R8 := Aside0.mk (z64_row hb2); have B2 := Aside0.mk hB2; have G8 := Aside0.mk hg8; clear hb2 hB2 hg8)
    | (refine store64_event (g := g8) (f := cf a) (x := .tmp 8) (y := .tmp 18) rfl rfl rfl rfl rfl R8.out ?_; intro w3 hr3 hb3; have X8 := Aside0.mk hr3; have B3 := Aside0.mk (hb3.below (B := w.heap.size) (by have := G8.out; have := B1.out.size; omega)); clear hr3 hb3))
  refine (bits_walk b (HB.out) w3).mono ?_
  rintro _ w4 ⟨rfl, B4'⟩
  have B4 := Aside0.mk (B4'.mono (show w.heap.size ≤ w3.heap.size from by have := B1.out.size; have := B2.out.size; have := B3.out.size; omega))
  have Y8 := Aside0.mk (X8.out.of_block (B4'.block g8 X8.out.lt))
  clear B4'
  go_wp2_with (first
    | ((with_reducible refine gate_dst (N := 9) rfl ?_); refine box_event ?hg (N := 9) ?hd (cs := Z64) (t := 61) ?hr ?_; (case hd => rfl); (case hg => rfl); (case hr => go_simp; rfl); intro g9 hg9 w5 hb5 hB5; have R9 := Aside0.mk (z64_row hb5); have B5 := Aside0.mk hB5; have G9 := Aside0.mk hg9; clear hb5 hB5 hg9)
    | (refine store64_event (g := g9) (f := cf b) (x := .tmp 9) (y := .tmp 20) rfl rfl rfl rfl rfl R9.out ?_; intro w6 hr6 hb6; have X9 := Aside0.mk hr6; have B6 := Aside0.mk hb6; clear hr6 hb6)
    | ((with_reducible refine gate_dst (N := 10) rfl ?_); refine box_event ?hg (N := 10) ?hd (cs := Z64) (t := 61) ?hr ?_; (case hd => rfl); (case hg => rfl); (case hr => go_simp; rfl); intro g10 hg10 w7 hb7 hB7; have R10 := Aside0.mk (z64_row hb7); have B7 := Aside0.mk hB7; have G10 := Aside0.mk hg10; clear hb7 hB7 hg10))
  have h89 : g8 < g9 := by have := G9.out; have := Y8.out.lt; omega
  have h9t : g9 < g10 := by have := G10.out; have := X9.out.lt; omega
  have hw8 : w.heap.size ≤ g8 := by have := G8.out; have := B1.out.size; omega
  have Z8 := Aside0.mk (((Y8.out.of_block (B5.out.block g8 Y8.out.lt)).of_block (B6.out.block g8 (by omega))).of_block (B7.out.block g8 (by have := Y8.out.lt; have := B5.out.size; have := B6.out.size; omega)))
  have Z9 := Aside0.mk (X9.out.of_block (B7.out.block g9 X9.out.lt))
  have BB := Aside0.mk (show Below w.heap.size w w7 from by
    have s1 := B1.out.size
    have s2 := B2.out.size
    have s3 := B3.out.size
    have s4 := B4.out.size
    have s5 := B5.out.size
    have s6 := B6.out.size
    exact (((((B1.out.trans (B2.out.mono s1)).trans B3.out).trans B4.out).trans (B5.out.mono (by omega))).trans (B6.out.below (by omega))).trans (B7.out.mono (by omega)))
  have HS := Aside0.mk (And.intro h89 (And.intro h9t hw8))
  clear h89 h9t hw8 B1 B2 B3 B4 B5 B6 B7 G8 G9 G10 R8 X8 Y8 R9 X9
  go_loopg [11, 12] (64 - d + 1) (fun kq v11 v12 wr => ∃ m : Nat, kq = m + 1 ∧ m ≤ 64 - d ∧ v11 = .int .i64 ((m : Int) - 1) ∧ wr.rowIs g8 61 64 (fun j => .int .i64 ((cf (dm a b d (64 - d - m)).2 j : Nat) : Int)) ∧ wr.rowIs g9 61 64 (fun j => .int .i64 ((cf b j : Nat) : Int)) ∧ wr.rowIs g10 61 64 (fun j => .int .i64 ((cf (dm a b d (64 - d - m)).1 j : Nat) : Int)) ∧ Below w.heap.size w wr)
  case atStart => exact ⟨64 - d, rfl, Nat.le_refl _, by congr 1; omega, Z8.out.congr (fun j _ => by rw [Nat.sub_self]; rfl), Z9.out, R10.out.congr (fun j _ => by rw [Nat.sub_self]; show _ = Value.int .i64 ((cf 0 j : Nat) : Int); unfold cf; simp), BB.out⟩
  case round =>
    obtain ⟨m, rfl, hm, rfl, hr8, hr9, hr10, hb⟩ := hrel
    have S8 := Aside0.mk hr8
    have S9 := Aside0.mk hr9
    have S10 := Aside0.mk hr10
    have SB := Aside0.mk hb
    clear hr8 hr9 hr10 hb Z8 Z9 R10 BB
    cases m with
    | zero =>
      have E8 := Aside0.mk (S8.out.congr (g := fun j => .int .i64 ((cf (pmod a b) j : Nat) : Int)) (fun j hj => by rw [Nat.sub_zero, dm_end HD.out HA.out hd63]))
      have E10 := Aside0.mk (S10.out.congr (g := fun j => .int .i64 ((cf (pquo a b) j : Nat) : Int)) (fun j hj => by rw [Nat.sub_zero, dm_end HD.out HA.out hd63]))
      clear S8 S9 S10
      have hq64 : pquo a b < 2 ^ 64 := by
        obtain ⟨h1, h2, h3⟩ := dm_keeps HD.out HA.out hd63 (64 - d) (Nat.le_refl _)
        rw [dm_end HD.out HA.out hd63] at h1
        by_cases z : pquo a b = 0
        · rw [z]; decide
        · apply bl_le.1
          have hb0 : b ≠ 0 := bl_pos.1 (by rw [HD.out]; omega)
          have e := bl_cl z hb0
          have e2 : cl (pquo a b) b = a ^^^ pmod a b := by
            have := congrArg (· ^^^ pmod a b) h1
            dsimp only at this
            rw [Nat.xor_assoc, Nat.xor_self, Nat.xor_zero] at this
            exact this.symm
          have hr := pmod_lt64 hb0 HB.out (a := a)
          have := bl_le.2 (Nat.xor_lt_two_pow HA.out hr)
          rw [← e2] at this
          have := HD.out
          omega
      have hr64 : pmod a b < 2 ^ 64 := pmod_lt64 (bl_pos.1 (by rw [HD.out]; omega)) HB.out
      have HQ := Aside0.mk hq64
      have HR := Aside0.mk hr64
      clear hq64 hr64
      obtain ⟨q, hq⟩ : ∃ q, q = pquo a b := ⟨_, rfl⟩
      obtain ⟨r, hr⟩ : ∃ r, r = pmod a b := ⟨_, rfl⟩
      rw [← hq] at E10 HQ
      rw [← hr] at E8 HR
      have QE := Aside0.mk hq
      have RE := Aside0.mk hr
      clear hq hr
      go_wp2
      refine wp_region_class (C := fun w' => Below wr.heap.size wr w') (by kernel_rfl) (by kernel_rfl) (pw_below_drewN (Below.refl _ _) 1) ?_
      refine class_value (.agg (V64 (cf q))) rfl (fun w' hw' => exec_load64 (x := .tmp 10) rfl rfl (E10.out.of_block (hw'.block g10 E10.out.lt))) ?_
      refine class_call (.int .u64 (q : Int)) rfl Tryd.func44 (by kernel_rfl) rfl #[.agg (V64 (cf q))] rfl (by simp only [List.map_toArray, List.map_cons, List.map_nil]; rfl) (fun w' hw' => (number_walk q HQ.out w').mono fun e w'' ⟨he, hb⟩ => ⟨he, hw'.trans (hb.mono hw'.size)⟩) ?_
      refine class_value (.agg (V64 (cf r))) rfl (fun w' hw' => exec_load64 (x := .tmp 8) rfl rfl (E8.out.of_block (hw'.block g8 E8.out.lt))) ?_
      refine class_call (.int .u64 (r : Int)) rfl Tryd.func44 (by kernel_rfl) rfl #[.agg (V64 (cf r))] rfl (by simp only [List.map_toArray, List.map_cons, List.map_nil]; rfl) (fun w' hw' => (number_walk r HR.out w').mono fun e w'' ⟨he, hb⟩ => ⟨he, hw'.trans (hb.mono hw'.size)⟩) ?_
      refine class_value (.int .u64 (q : Int)) rfl (fun w' hw' => by unfold execOp; rfl) ?_
      refine class_value (.int .u64 (r : Int)) rfl (fun w' hw' => by unfold execOp; rfl) ?_
      refine class_value (.int .i64 0) rfl (fun w' hw' => by unfold execOp; rfl) ?_
      refine wpQuiet_nil ?_
      intro w9 B9
      go_simp
      go_wp2
      go_ret3
      exact ⟨by rw [← QE.out, ← RE.out]; rfl, SB.out.trans (B9.mono SB.out.size)⟩
    | succ k =>
      have e1 : ((k + 1 : Nat) : Int) - 1 = (k : Int) := by omega
      rw [e1]
      clear e1
      obtain ⟨-, kp2, kp3⟩ := dm_keeps HD.out HA.out hd63 (64 - d - (k + 1)) (by omega)
      have hq0 := kp3 k (by omega)
      have hnx := dm_succ (a := a) (b := b) hm
      generalize hdm : dm a b d (64 - d - (k + 1)) = D at S8 S10 hnx kp2 hq0
      obtain ⟨q, r⟩ := D
      dsimp only at S8 S10 hnx kp2 hq0
      have HQ := Aside0.mk hq0
      have hk64 : k < 64 := by omega
      have hkd64 : k + d < 64 := by omega
      have hxk : ((k : Nat) : Int) < 64 := by omega
      have hxkd : ((k : Nat) : Int) + (d : Int) < 64 := by omega
      have c8 := S8.out.cell hkd64
      clear kp2 kp3 hq0 hdm
      by_cases hbit : r.testBit (k + d) = true
      · rw [if_pos hbit] at hnx
        have HN := Aside0.mk hnx
        have hc1 : cf r (k + d) = 1 := by unfold cf; rw [if_pos hbit]
        rw [hc1] at c8
        have c10 := S10.out.cell hk64
        have f10 := S10.out.frozen k
        clear hbit hnx hc1
        go_wp2_with fail
        have U8 : Aside0 ((wr.setCell ⟨g10, k, none⟩ (.int .i64 1)).rowIs g8 61 64 (fun j => .int .i64 ((rr r b k 0 j : Nat) : Int))) := ⟨(World.rowIs.setOther S8.out (a := ⟨g10, k, none⟩) (show g8 ≠ g10 from by have := HS.out; omega) _).congr (fun j _ => by rw [rr_zero])⟩
        have U9 : Aside0 ((wr.setCell ⟨g10, k, none⟩ (.int .i64 1)).rowIs g9 61 64 (fun j => .int .i64 ((cf b j : Nat) : Int))) := ⟨World.rowIs.setOther S9.out (a := ⟨g10, k, none⟩) (show g9 ≠ g10 from by have := HS.out; omega) _⟩
        have U10 : Aside0 ((wr.setCell ⟨g10, k, none⟩ (.int .i64 1)).rowIs g10 61 64 (fun j => .int .i64 ((cf (q ^^^ 2 ^ k) j : Nat) : Int))) := ⟨(S10.out.set k (.int .i64 1)).congr (fun j _ => by
          rw [q_set HQ.out]
          by_cases e : j = k
          · rw [if_pos e, if_pos e]; rfl
          · rw [if_neg e, if_neg e])⟩
        have UB : Aside0 (Below w.heap.size w (wr.setCell ⟨g10, k, none⟩ (.int .i64 1))) := ⟨SB.out.setCell (p := ⟨g10, k, none⟩) (show w.heap.size ≤ g10 from by have := HS.out; omega) _⟩
        clear S8 S9 S10 SB c8 c10 f10
        go_loopg [12] (d + 1) (fun kq v12 wr => ∃ j : Nat, kq = d + 1 - j ∧ j ≤ d + 1 ∧ v12 = .int .i64 (j : Int) ∧ wr.rowIs g8 61 64 (fun x => .int .i64 ((rr r b k j x : Nat) : Int)) ∧ wr.rowIs g9 61 64 (fun j => .int .i64 ((cf b j : Nat) : Int)) ∧ wr.rowIs g10 61 64 (fun j => .int .i64 ((cf (q ^^^ 2 ^ k) j : Nat) : Int)) ∧ Below w.heap.size w wr)
        case atStart => exact ⟨0, rfl, by omega, rfl, U8.out, U9.out, U10.out, UB.out⟩
        case round =>
          clear U8 U9 U10 UB
          obtain ⟨j, rfl, hj, rfl, hr8, hr9, hr10, hb⟩ := hrel
          have S8 := Aside0.mk hr8
          have S9 := Aside0.mk hr9
          have S10 := Aside0.mk hr10
          have SB := Aside0.mk hb
          clear hr8 hr9 hr10 hb
          by_cases hjd : j < d + 1
          · obtain ⟨e, he⟩ : ∃ e, e = k + j := ⟨_, rfl⟩
            have hl8 : e < 64 := by omega
            have hl9 : j < 64 := by omega
            have c8 := S8.out.cell hl8
            have f8 := S8.out.frozen e
            have c9 := S9.out.cell hl9
            have er : rr r b k j e = cf r e := by rw [he, rr_at]
            rw [er] at c8
            have hstep : (cf r e + cf b j) % 2 = cf (r ^^^ b * 2 ^ k) e := by rw [cf_xor, cf_shift, he, if_neg (by omega), show k + j - k = j by omega]
            have hnx := fun x => rr_next r b k j x
            rw [← he] at hnx
            have hp1 := cf_le r e
            have hq1 := cf_le b j
            generalize cf r e = p at c8 hnx hp1 hstep
            generalize cf b j = y at c9 hnx hq1 hstep
            obtain ⟨s, hs⟩ : ∃ s, s = (p + y) % 2 := ⟨_, rfl⟩
            rw [← hs] at hnx
            have HNX := Aside0.mk hnx
            have hx8 : ((e : Nat) : Int) < 64 := by omega
            have hx9 : ((j : Nat) : Int) < 64 := by omega
            have ei : (k : Int) + (j : Int) = (e : Int) := by omega
            have we' : IntKind.i64.wrap (e : Int) = (e : Int) := w64' (by omega)
            have wu' : IntKind.i64.wrap ((p : Int) + (y : Int)) = (p : Int) + (y : Int) := by rw [← Int.natCast_add]; exact w64' (by omega)
            have ws' : IntKind.i64.wrap (s : Int) = (s : Int) := w64' (by omega)
            have es : ((p : Int) + (y : Int)).tmod 2 = (s : Int) := sum2 hs
            have hje : j ≤ d := by omega
            clear hnx hs er hstep he
            go_wp2
            refine wp_region_quiet_tail 13 (by kernel_rfl) (by kernel_rfl) ?_
            simp only [List.take_succ_cons, List.take_zero, List.drop_succ_cons, List.drop_zero]
            repeat (quiet_step (fail))
            refine wpQuiet_nil ?_
            intro wq hq
            obtain ⟨nq, rfl⟩ := hq
            go_wp2
            have V9 := Aside0.mk (World.rowIs.setOther (a := ⟨g8, e, none⟩) (show (wr.drewN nq).rowIs g9 61 64 (fun j => .int .i64 ((cf b j : Nat) : Int)) from S9.out) (show g9 ≠ g8 from by have := HS.out; omega) (.int .i64 (s : Int)))
            have V10 := Aside0.mk (World.rowIs.setOther (a := ⟨g8, e, none⟩) (show (wr.drewN nq).rowIs g10 61 64 (fun j => .int .i64 ((cf (q ^^^ 2 ^ k) j : Nat) : Int)) from S10.out) (show g10 ≠ g8 from by have := HS.out; omega) (.int .i64 (s : Int)))
            have V8 := Aside0.mk ((World.rowIs.set (show (wr.drewN nq).rowIs g8 61 64 (fun x => .int .i64 ((rr r b k j x : Nat) : Int)) from S8.out) e (.int .i64 (s : Int))).congr (g := fun x => .int .i64 ((rr r b k (j + 1) x : Nat) : Int)) (fun x hx => by
              rw [HNX.out]
              by_cases e0 : x = e
              · rw [if_pos e0, if_pos e0]
              · rw [if_neg e0, if_neg e0]))
            have VB := Aside0.mk ((pw_below_drewN SB.out nq).setCell (p := ⟨g8, e, none⟩) (show w.heap.size ≤ g8 from by have := HS.out; omega) (.int .i64 (s : Int)))
            clear S8 S9 S10 SB
            go_roundg (d + 1 - (j + 1))
            case measure => omega
            case rel => exact ⟨j + 1, rfl, by omega, by go_num, V8.out, V9.out, V10.out, VB.out⟩
          · obtain rfl : j = d + 1 := by omega
            go_wp2_with fail
            go_roundg (k + 1)
            case measure => omega
            case rel => exact ⟨k, rfl, by omega, by go_num, S8.out.congr (fun x _ => by rw [HN.out, rr_end HD.out]), S9.out, S10.out.congr (fun j _ => by rw [HN.out]), SB.out⟩
      · rw [if_neg hbit] at hnx
        have HN := Aside0.mk hnx
        have hc1 : cf r (k + d) = 0 := by unfold cf; rw [if_neg hbit]
        rw [hc1] at c8
        clear hbit hnx hc1
        go_wp2_with fail
        go_roundg (k + 1)
        case measure => omega
        case rel => exact ⟨k, rfl, by omega, by go_num, S8.out.congr (fun j _ => by rw [HN.out]), S9.out, S10.out.congr (fun j _ => by rw [HN.out]), SB.out⟩
end Go.Proofs.YthldahaimcdejaaDoor.A
