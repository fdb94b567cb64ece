/- The document's product, walked by hand. -/
import Derived.Test.YthldahaimcdejaaDoorRC
import Derived.Test.YthldahaimcdejaaDoorQuietTail

namespace Go.Proofs.YthldahaimcdejaaDoor.A
open Go.RowKit Go.Deep Go.Proofs.YthldahaimcdejaaDoor.R Go.Proofs.YthldahaimcdejaaDoorW.PrintWords Go.Proofs.YthldahaimcdejaaDoorW.PrintLast Go.Proofs.YthldahaimcdejaaDoorW.PrintMore GP
set_option linter.unusedVariables false
set_option linter.unusedSimpArgs false
/-- The walk's z while column n is being summed. -/
def zz (a b n i j : Nat) : Nat := if j < n then cf (cl a b) j else if j = n then cv a b n i else 0
theorem zz_next (a b n j : Nat) : zz a b n (n + 1) j = zz a b (n + 1) 0 j := by
  unfold zz
  by_cases h : j < n
  · rw [if_pos h, if_pos (by omega)]
  · rw [if_neg h]
    by_cases e : j = n
    · rw [if_pos e, if_pos (by omega), e, cl_cf]
    · rw [if_neg e, if_neg (by omega)]
      split <;> rfl
theorem w64' {n : Nat} (h : n < 2 ^ 62) : IntKind.i64.wrap (n : Int) = (n : Int) := wrap_small _ (by omega) (by omega)
theorem sum2 {u pq s : Nat} (hs : s = (u + pq) % 2) : ((u : Int) + (pq : Int)).tmod 2 = (s : Int) := by rw [hs]; rw [Int.tmod_eq_emod_of_nonneg (by omega)]; omega
set_option maxHeartbeats 4000000 in
set_option maxRecDepth 100000 in
theorem mul_walk (a b : Nat) (ha : a < 2 ^ 32) (hb : b < 2 ^ 32) (w : World) : Calls Tryd.prog 20 #[.int .u32 (a : Int), .int .u32 (b : Int)] w fun e w' => e = .returned (.int .u64 (cl a b : Int)) ∧ Below w.heap.size w w' := by
  have HA := Aside0.mk ha
  have HB := Aside0.mk hb
  clear ha hb
  go_enter Tryd.func20, Tryd.ntmps20
  have ea : IntKind.u64.wrap (a : Int) = (a : Int) := by have := HA.out; rw [IntKind.wrap_u64]; omega
  have eb : IntKind.u64.wrap (b : Int) = (b : Int) := by have := HB.out; rw [IntKind.wrap_u64]; omega
  go_wp2_with fail
  refine (bits_walk a (by have := HA.out; omega) w).mono ?_
  rintro _ w1 ⟨rfl, B1'⟩
  have B1 := Aside0.mk B1'
  clear B1'
  go_wp2_with (first
    | ((with_reducible refine gate_dst (N := 5) rfl ?_); refine box_event ?hg (N := 5) ?hd (cs := Z64) (t := 61) ?hr ?_; (case hd => rfl); (case hg => rfl); (case hr => go_simp; rfl); intro g5 hg5 w2 hb2 hB2; have R5 := Aside0.mk (z64_row hb2); have B2 := Aside0.mk hB2; have G5 := Aside0.mk hg5; clear hb2 hB2 hg5)
    | (refine store64_event (g := g5) (f := cf a) (x := .tmp 5) (y := .tmp 12) rfl rfl rfl rfl rfl R5.out ?_; intro w3 hr3 hb3; have X5 := Aside0.mk hr3; have B3 := Aside0.mk (hb3.below (B := w.heap.size) (by have := G5.out; have := B1.out.size; omega)); clear hr3 hb3))
  refine (bits_walk b (by have := HB.out; omega) w3).mono ?_
  rintro _ w4 ⟨rfl, B4'⟩
  have B4 := Aside0.mk (B4'.mono (show w.heap.size ≤ w3.heap.size from by have := B1.out.size; have := B2.out.size; have := B3.out.size; omega))
  have Y5 := Aside0.mk (X5.out.of_block (B4'.block g5 X5.out.lt))
  clear B4'
  go_wp2_with (first
    | ((with_reducible refine gate_dst (N := 6) rfl ?_); refine box_event ?hg (N := 6) ?hd (cs := Z64) (t := 61) ?hr ?_; (case hd => rfl); (case hg => rfl); (case hr => go_simp; rfl); intro g6 hg6 w5 hb5 hB5; have R6 := Aside0.mk (z64_row hb5); have B5 := Aside0.mk hB5; have G6 := Aside0.mk hg6; clear hb5 hB5 hg6)
    | (refine store64_event (g := g6) (f := cf b) (x := .tmp 6) (y := .tmp 15) rfl rfl rfl rfl rfl R6.out ?_; intro w6 hr6 hb6; have X6 := Aside0.mk hr6; have B6 := Aside0.mk hb6; clear hr6 hb6)
    | ((with_reducible refine gate_dst (N := 7) rfl ?_); refine box_event ?hg (N := 7) ?hd (cs := Z64) (t := 61) ?hr ?_; (case hd => rfl); (case hg => rfl); (case hr => go_simp; rfl); intro g7 hg7 w7 hb7 hB7; have R7 := Aside0.mk (z64_row hb7); have B7 := Aside0.mk hB7; have G7 := Aside0.mk hg7; clear hb7 hB7 hg7))
  have h56 : g5 < g6 := by have := G6.out; have := Y5.out.lt; omega
  have h67 : g6 < g7 := by have := G7.out; have := X6.out.lt; omega
  have hw5 : w.heap.size ≤ g5 := by have := G5.out; have := B1.out.size; omega
  have Z5 := Aside0.mk (((Y5.out.of_block (B5.out.block g5 Y5.out.lt)).of_block (B6.out.block g5 (by omega))).of_block (B7.out.block g5 (by have := Y5.out.lt; have := B5.out.size; have := B6.out.size; omega)))
  have Z6 := Aside0.mk (X6.out.of_block (B7.out.block g6 X6.out.lt))
  have BB := Aside0.mk (show Below w.heap.size w w7 from by
    have s1 := B1.out.size
    have s2 := B2.out.size
    have s3 := B3.out.size
    have s4 := B4.out.size
    have s5 := B5.out.size
    have s6 := B6.out.size
    exact (((((B1.out.trans (B2.out.mono s1)).trans B3.out).trans B4.out).trans (B5.out.mono (by omega))).trans (B6.out.below (by omega))).trans (B7.out.mono (by omega)))
  have HS := Aside0.mk (And.intro h56 (And.intro h67 hw5))
  clear h56 h67 hw5 B1 B2 B3 B4 B5 B6 B7 G5 G6 G7 R5 X5 Y5 R6 X6 ea eb
  go_loopg [8, 9] 64 (fun kq v8 v9 wr => ∃ n : Nat, kq = 64 - n ∧ n ≤ 64 ∧ v8 = .int .i64 (n : Int) ∧ wr.rowIs g5 61 64 (fun j => .int .i64 ((cf a j : Nat) : Int)) ∧ wr.rowIs g6 61 64 (fun j => .int .i64 ((cf b j : Nat) : Int)) ∧ wr.rowIs g7 61 64 (fun j => .int .i64 ((zz a b n 0 j : Nat) : Int)) ∧ Below w.heap.size w wr)
  case atStart => exact ⟨0, rfl, by omega, rfl, Z5.out, Z6.out, R7.out.congr (fun j _ => by unfold zz; rw [if_neg (by omega)]; split <;> rfl), BB.out⟩
  case round =>
    obtain ⟨n, rfl, hn, rfl, hr5, hr6, hr7, hb⟩ := hrel
    have S5 := Aside0.mk hr5
    have S6 := Aside0.mk hr6
    have S7 := Aside0.mk hr7
    have SB := Aside0.mk hb
    clear hr5 hr6 hr7 hb Z5 Z6 R7 BB
    by_cases hlt : n < 64
    · have hd64 : decide ((n : Int) < 64) = true := decide_eq_true (by omega)
      go_wp2_with fail
      go_loopg [9] (n + 1) (fun kq v9 wr => ∃ i : Nat, kq = n + 1 - i ∧ i ≤ n + 1 ∧ v9 = .int .i64 (i : Int) ∧ wr.rowIs g5 61 64 (fun j => .int .i64 ((cf a j : Nat) : Int)) ∧ wr.rowIs g6 61 64 (fun j => .int .i64 ((cf b j : Nat) : Int)) ∧ wr.rowIs g7 61 64 (fun j => .int .i64 ((zz a b n i j : Nat) : Int)) ∧ Below w.heap.size w wr)
      case atStart => exact ⟨0, rfl, by omega, rfl, S5.out, S6.out, S7.out, SB.out⟩
      case round =>
        clear S5 S6 S7 SB hd64
        obtain ⟨i, rfl, hi, rfl, hr5, hr6, hr7, hb⟩ := hrel
        have S5 := Aside0.mk hr5
        have S6 := Aside0.mk hr6
        have S7 := Aside0.mk hr7
        have SB := Aside0.mk hb
        clear hr5 hr6 hr7 hb
        by_cases hin : i < n + 1
        · have hl5 : i < 64 := by omega
          obtain ⟨e, he⟩ : ∃ e, e = n - i := ⟨_, rfl⟩
          have hl6 : e < 64 := by omega
          have c5 := S5.out.cell hl5
          have c6 := S6.out.cell hl6
          have c7 := S7.out.cell hlt
          have f7 := S7.out.frozen n
          have ez : zz a b n i n = cv a b n i := by unfold zz; rw [if_neg (Nat.lt_irrefl n), if_pos rfl]
          rw [ez] at c7
          have hstep : cv a b n (i + 1) = (cv a b n i + cf a i * cf b e) % 2 := by rw [he]; rfl
          have hp1 := cf_le a i
          have hq1 := cf_le b e
          have hu1 := cv_le a b n i
          generalize cv a b n i = u at c7 hstep hu1
          generalize cf a i = p at c5 hstep hp1
          generalize cf b e = q at c6 hstep hq1
          obtain ⟨pq, hpq⟩ : ∃ pq, pq = p * q := ⟨_, rfl⟩
          have hpq1 : pq ≤ 1 := by rw [hpq]; exact Nat.mul_le_mul hp1 hq1
          obtain ⟨s, hs⟩ : ∃ s, s = (u + pq) % 2 := ⟨_, rfl⟩
          have hx5 : ((i : Nat) : Int) < 64 := by omega
          have hx7 : ((n : Nat) : Int) < 64 := by omega
          have hx6 : ((e : Nat) : Int) < 64 := by omega
          have ei : (n : Int) - (i : Int) = (e : Int) := by omega
          have em : (p : Int) * (q : Int) = (pq : Int) := by rw [hpq]; exact (Int.natCast_mul p q).symm
          have HST := Aside0.mk (show cv a b n (i + 1) = s by rw [hstep, ← hpq, hs])
          have we' : IntKind.i64.wrap (e : Int) = (e : Int) := w64' (by omega)
          have wq' : IntKind.i64.wrap (pq : Int) = (pq : Int) := w64' (by omega)
          have wu' : IntKind.i64.wrap ((u : Int) + (pq : Int)) = (u : Int) + (pq : Int) := by rw [← Int.natCast_add]; exact w64' (by omega)
          have ws' : IntKind.i64.wrap (s : Int) = (s : Int) := w64' (by omega)
          have es : ((u : Int) + (pq : Int)).tmod 2 = (s : Int) := sum2 hs
          clear hstep hs he hpq ez
          go_wp2
          refine wp_region_quiet_tail 15 (by kernel_rfl) (by kernel_rfl) ?_
          simp only [List.take_succ_cons, List.take_zero, List.drop_succ_cons, List.drop_zero]
          repeat (quiet_step (fail))
          refine wpQuiet_nil ?_
          intro wq hq
          obtain ⟨nq, rfl⟩ := hq
          go_wp2
          have U5 := Aside0.mk (World.rowIs.setOther (a := ⟨g7, n, none⟩) (show (wr.drewN nq).rowIs g5 61 64 (fun j => .int .i64 ((cf a j : Nat) : Int)) from S5.out) (show g5 ≠ g7 from by have := HS.out; omega) (.int .i64 (s : Int)))
          have U6 := Aside0.mk (World.rowIs.setOther (a := ⟨g7, n, none⟩) (show (wr.drewN nq).rowIs g6 61 64 (fun j => .int .i64 ((cf b j : Nat) : Int)) from S6.out) (show g6 ≠ g7 from by have := HS.out; omega) (.int .i64 (s : Int)))
          have U7 := Aside0.mk ((World.rowIs.set (show (wr.drewN nq).rowIs g7 61 64 (fun j => .int .i64 ((zz a b n i j : Nat) : Int)) from S7.out) n (.int .i64 (s : Int))).congr (g := fun j => .int .i64 ((zz a b n (i + 1) j : Nat) : Int)) (fun j hj => by
            by_cases e : j = n
            · rw [if_pos e]
              have : zz a b n (i + 1) j = s := by unfold zz; rw [if_neg (by omega), if_pos e]; exact HST.out
              rw [this]
            · rw [if_neg e]
              have : zz a b n (i + 1) j = zz a b n i j := by unfold zz; simp only [if_neg e]
              rw [this]))
          have UB := Aside0.mk ((pw_below_drewN SB.out nq).setCell (p := ⟨g7, n, none⟩) (show w.heap.size ≤ g7 from by have := HS.out; omega) (.int .i64 (s : Int)))
          clear S5 S6 S7 SB
          go_roundg (n + 1 - (i + 1))
          case measure => omega
          case rel => exact ⟨i + 1, rfl, by omega, by go_num, U5.out, U6.out, U7.out, UB.out⟩
        · obtain rfl : i = n + 1 := by omega
          have T7 := Aside0.mk (S7.out.congr (g := fun j => .int .i64 ((zz a b (n + 1) 0 j : Nat) : Int)) (fun j _ => by rw [zz_next]))
          clear S7
          go_wp2_with fail
          go_roundg (64 - (n + 1))
          case measure => omega
          case rel => exact ⟨n + 1, rfl, by omega, by go_num, S5.out, S6.out, T7.out, SB.out⟩
    · obtain rfl : n = 64 := by omega
      have E7 := Aside0.mk (S7.out.congr (g := fun j => .int .i64 ((cf (cl a b) j : Nat) : Int)) (fun j hj => by unfold zz; rw [if_pos hj]))
      clear S7 S5 S6
      have hcl : cl a b < 2 ^ 64 := cl_lt2 (m := 32) (n := 32) HA.out HB.out
      go_wp2_with (first
        | ((with_reducible refine gate_dst (N := 41) rfl ?_); refine Kd.event_run (v := .agg (V64 (cf (cl a b)))) (w1 := wr) rfl (exec_load64 (x := .tmp 7) rfl rfl E7.out) ?_))
      refine (number_walk (cl a b) hcl wr).mono ?_
      rintro _ w8 ⟨rfl, B8⟩
      go_wp2_with fail
      go_ret
      exact ⟨rfl, SB.out.trans (B8.mono SB.out.size)⟩
end Go.Proofs.YthldahaimcdejaaDoor.A
