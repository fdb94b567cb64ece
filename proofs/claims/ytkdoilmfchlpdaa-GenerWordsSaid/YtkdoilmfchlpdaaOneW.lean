import Derived.Test.YtkdoilmfchlpdaaRWords
import Derived.Test.YtkdoilmfchlpdaaZ8
import Derived.Outline
namespace Go.Proofs.Ytkdoilmfchlpdaa.A
open Go.RowKit Go.Deep Go.Proofs.YtkdoilmfchlpdaaW.PrintWords Go.Proofs.YtkdoilmfchlpdaaW.PrintLast Go.Proofs.YtkdoilmfchlpdaaW.PrintMore Go.Proofs.Ytkdoilmfchlpdaa.R Go.Proofs.Ytkdoilmfchlpdaa.RI Go.Proofs.Ytkdoilmfchlpdaa.B
set_option linter.unusedVariables false
set_option linter.unusedSimpArgs false
theorem infoI1 : (Try.prog.info? 3).map (fun i => (i.zero, i.size, i.bytes)) = some (some (.int .i64 0), (Kd.int .i64).sz, 8) := by kernel_rfl
/-- What a call of the law answers: true. -/
def culletlaw11_one.f (a0_0 a0_1 a0_2 a0_3 a0_4 : Int) (l0_5 l0_6 : List Int) (l0_7 : List (List Int)) : Option Bool :=
  if (a0_0 = 4) ∧ (-9223372036854775808 ≤ a0_1 ∧ a0_1 ≤ 9223372036854775807 ∧ -9223372036854775808 ≤ a0_2 ∧ a0_2 ≤ 9223372036854775807 ∧ -9223372036854775808 ≤ a0_3 ∧ a0_3 ≤ 9223372036854775807 ∧ -9223372036854775808 ≤ a0_4 ∧ a0_4 ≤ 9223372036854775807) ∧ l0_5.length * 8 ≤ 140737488351232 ∧ l0_6.length * 8 ≤ 140737488351232 ∧ (l0_7.length * 24 ≤ 140737488351232 ∧ ∀ x ∈ l0_7, x.length * 1 ≤ 140737488351232 ∧ ∀ y ∈ x, (Lit.int .u8 y).wf = true) then some true else none
set_option maxHeartbeats 4000000 in
set_option maxRecDepth 100000 in
theorem one_4 (a0_1 a0_2 a0_3 a0_4 : Int) (A0_5 : Option Addr) (c0_5 : Nat) (l0_5 : List Int) (A0_6 : Option Addr) (c0_6 : Nat) (l0_6 : List Int) (A0_7 : Option Addr) (c0_7 : Nat) (l0_7 : List (List Int)) (w : World) (H5 : Aside0 (Kd.C (Kd.int .i64) w A0_5 l0_5.length l0_5)) (hc0_5 : l0_5.length ≤ c0_5) (H6 : Aside0 (Kd.C (Kd.int .i64) w A0_6 l0_6.length l0_6)) (hc0_6 : l0_6.length ≤ c0_6) (H7 : Aside0 (Kd.C (Kd.slice 5 (Kd.int .u8)) w A0_7 l0_7.length l0_7)) (hc0_7 : l0_7.length ≤ c0_7)
    (b22 : a0_2 ≤ 9223372036854775807) (b32 : a0_3 ≤ 9223372036854775807) (b5 : l0_5.length * 8 ≤ 140737488351232) (b6 : l0_6.length * 8 ≤ 140737488351232) (b7 : l0_7.length * 24 ≤ 140737488351232) (HB8 : Aside0 (∀ x ∈ l0_7, x.length * 1 ≤ 140737488351232 ∧ ∀ y ∈ x, (Lit.int .u8 y).wf = true)) :
    Calls Try.prog 56 #[.agg #[.int .i64 4, .int .i64 a0_1, .int .i64 a0_2, .int .i64 a0_3, .int .i64 a0_4, .slice A0_5 l0_5.length c0_5, .slice A0_6 l0_6.length c0_6, .slice A0_7 l0_7.length c0_7]] w fun e w' => e = .returned (.bool true) ∧ Below w.heap.size w w' := by
  obtain ⟨r, e, D1, hr⟩ := Words_any a0_2 a0_3 a0_4
  obtain ⟨k1, hk1⟩ := (Alike_self (a := r) (by omega)).rounds
  have K1 := Aside0.mk hk1
  clear hk1
  have D1 := Aside0.mk D1
  clear hr
  have hee : (e == e) = true := beq_iff_eq.2 rfl
  have hu88 := Try.underlying88
  go_enter Try.func56, Try.ntmps56
  go_wp2_with (first | ((with_reducible refine gate_dst (N := 1) rfl ?_); refine box_event ?hg (N := 1) ?hd (cs := #[.int .i64 4, .int .i64 a0_1, .int .i64 a0_2, .int .i64 a0_3, .int .i64 a0_4, .slice A0_5 l0_5.length c0_5, .slice A0_6 l0_6.length c0_6, .slice A0_7 l0_7.length c0_7]) (t := 88) ?hr ?_; (case hd => rfl); (case hg => rfl); (case hr => first | (go_simp; done) | (go_simp; rfl)); intro gb hgb w9 hbox hb; have BK := Aside0.mk hbox; have B9 := Aside0.mk hb; have BK9 := Aside0.mk hbox; have BKL := Aside0.mk (blk_lt hbox); clear hb hbox hgb; have z1 : (w9).cell? ⟨gb, 1, none⟩ = some (.int .i64 a0_1) := (blk_cell BK.out 1).trans rfl) | ((with_reducible refine gate_dst (N := 33) rfl ?_); refine Kd.R_lit (Kd.int .i64) (w0 := w9) (w9).heap.size 3 ?hg (N := 33) ?hd (xs := ([] : List Int)) (inner := []) (ok := fun _ => True) (okp := fun _ => True) ?hr ?hp (fun _ hk => hk) trivial (Below.refl _ _) (Nat.le_refl _) (by simp) ?_; (case hd => rfl); (case hg => rfl); (case hr => first | (go_simp; done) | (go_simp; rfl)); (case hp => exact (Reps.none _ _)); intro v33 w33 ho33 hb33 _ _; have BK2 := Aside0.mk ((hb33.block _ (blk_lt BK.out)).trans BK.out); have HO33 := Aside0.mk ho33; have HB33 := Aside0.mk hb33; clear BK ho33 hb33; clear z1; have z5 : (w33).cell? ⟨gb, 5, none⟩ = some (.slice A0_5 l0_5.length c0_5) := (blk_cell BK2.out 5).trans rfl) | ((with_reducible refine gate_builtin (b := .append) (xs := #[.tmp 33, .tmp 35]) rfl ?_); at_builtin; refine Kd.R_append_rows (Kd.int .i64) (w0 := w9) (w9).heap.size rfl (.tmp 33) (.tmp 35) 34 3 (.int .i64 0) 8 rfl Try.underlying34 infoI1 rfl (by decide) (by omega) v33 [] l0_5 _ _ _ (fun _ => True) (fun _ => False) rfl rfl HO33.out (Kd.C_below H5.out ((B9.out.trans (HB33.out.mono B9.out.size)))) (fun _ _ h => h) (fun _ h => h.elim) (fun _ _ => trivial) HB33.out HB33.out.size (by rw [List.length_nil, Nat.zero_add]; omega) ?_; intro v36 w36 ho hb _ _; rw [List.nil_append] at ho; obtain ⟨A36, c36, rfl, hc36, hC36⟩ := Kd.R_reads ho; have BK := Aside0.mk ((hb.block _ (BKL.out)).trans (BK9.out)); have HC36 := Aside0.mk hC36; have HD36 := Aside0.mk hb; clear ho hb hC36 BK2 HO33 HB33) | ((with_reducible refine gate_dst (N := 37) rfl ?_); refine Kd.R_lit (Kd.int .i64) (w0 := w36) (w36).heap.size 3 ?hg (N := 37) ?hd (xs := ([] : List Int)) (inner := []) (ok := fun _ => True) (okp := fun _ => True) ?hr ?hp (fun _ hk => hk) trivial (Below.refl _ _) (Nat.le_refl _) (by simp) ?_; (case hd => rfl); (case hg => rfl); (case hr => first | (go_simp; done) | (go_simp; rfl)); (case hp => exact (Reps.none _ _)); intro v37 w37 ho37 hb37 _ _; have BK2 := Aside0.mk ((hb37.block _ (blk_lt BK.out)).trans BK.out); have HO37 := Aside0.mk ho37; have HB37 := Aside0.mk hb37; clear BK ho37 hb37; clear z5; have z6 : (w37).cell? ⟨gb, 6, none⟩ = some (.slice A0_6 l0_6.length c0_6) := (blk_cell BK2.out 6).trans rfl) | ((with_reducible refine gate_builtin (b := .append) (xs := #[.tmp 37, .tmp 39]) rfl ?_); at_builtin; refine Kd.R_append_rows (Kd.int .i64) (w0 := w36) (w36).heap.size rfl (.tmp 37) (.tmp 39) 34 3 (.int .i64 0) 8 rfl Try.underlying34 infoI1 rfl (by decide) (by omega) v37 [] l0_6 _ _ _ (fun _ => True) (fun _ => False) rfl rfl HO37.out (Kd.C_below H6.out (((B9.out.trans (HD36.out.mono B9.out.size)).trans (HB37.out.mono (Nat.le_trans B9.out.size HD36.out.size))))) (fun _ _ h => h) (fun _ h => h.elim) (fun _ _ => trivial) HB37.out HB37.out.size (by rw [List.length_nil, Nat.zero_add]; omega) ?_; intro v40 w40 ho hb _ _; rw [List.nil_append] at ho; obtain ⟨A40, c40, rfl, hc40, hC40⟩ := Kd.R_reads ho; have BK := Aside0.mk ((hb.block _ (Nat.lt_of_lt_of_le BKL.out HD36.out.size)).trans ((HD36.out.block _ BKL.out).trans BK9.out)); have HC40 := Aside0.mk hC40; have HD40 := Aside0.mk hb; clear ho hb hC40 BK2 HO37 HB37); clear z6; have B40 := Aside0.mk ((B9.out.trans (HD36.out.mono B9.out.size)).trans (HD40.out.mono (Nat.le_trans B9.out.size HD36.out.size))); have HC4 := Aside0.mk (Kd.C_below HC36.out HD40.out); clear HC36 HD36 HD40 BK9 BKL B9; have z0 : (w40).cell? ⟨gb, 0, none⟩ = some (.int .i64 4) := (blk_cell BK.out 0).trans rfl; have z2 : (w40).cell? ⟨gb, 2, none⟩ = some (.int .i64 a0_2) := (blk_cell BK.out 2).trans rfl; have z3 : (w40).cell? ⟨gb, 3, none⟩ = some (.int .i64 a0_3) := (blk_cell BK.out 3).trans rfl; have z4 : (w40).cell? ⟨gb, 4, none⟩ = some (.int .i64 a0_4) := (blk_cell BK.out 4).trans rfl)
  have BT := B40
  clear B40
  refine (gener_Words.calls a0_2 a0_3 a0_4 r e w40 D1.out).mono ?_
  rintro e1 w41 ⟨v41, rfl, hS, hb⟩
  obtain ⟨A41, c41, rfl, hc41, hC41⟩ := Kd.R_reads hS
  have C41 := Aside0.mk hC41
  have BK2 := Aside0.mk ((hb.block _ (blk_lt BK.out)).trans BK.out)
  have BT2 := Aside0.mk (BT.out.trans (hb.mono BT.out.size))
  clear BK BT
  have BK := BK2
  have BT := BT2
  clear BK2 BT2
  clear hS hC41 hb z0 z2 z3 z4
  have z2 : (w41).cell? ⟨gb, 2, none⟩ = some (.int .i64 a0_2) := (blk_cell BK.out 2).trans rfl
  have z3 : (w41).cell? ⟨gb, 3, none⟩ = some (.int .i64 a0_3) := (blk_cell BK.out 3).trans rfl
  have z4 : (w41).cell? ⟨gb, 4, none⟩ = some (.int .i64 a0_4) := (blk_cell BK.out 4).trans rfl
  go_wp2_with fail
  refine (culletref11_Words.calls a0_2 a0_3 a0_4 r e w41 b22 D1.out).mono ?_
  rintro e1 w42 ⟨v42, rfl, hS, hb⟩
  obtain ⟨A42, c42, rfl, hc42, hC42⟩ := Kd.R_reads hS
  have x_42 := Aside0.mk (Kd.C_below C41.out hb)
  have C42 := Aside0.mk hC42
  have BK2 := Aside0.mk ((hb.block _ (blk_lt BK.out)).trans BK.out)
  have BT2 := Aside0.mk (BT.out.trans (hb.mono BT.out.size))
  clear BK BT
  have BK := BK2
  have BT := BT2
  clear BK2 BT2
  clear hS hC42 hb z2 z3 z4
  go_wp2_with fail
  refine (culletlaw11_alike.calls k1 A41 c41 r A42 c42 r true _ x_42.out hc41 C42.out hc42 K1.out).mono ?_
  rintro e1 wd1 ⟨rfl, hD1⟩
  obtain ⟨nd1, rfl⟩ := hD1.out
  go_wp2_with fail
  go_ret
  exact ⟨rfl, pw_below_drewN BT.out (nd1)⟩
theorem culletlaw11_one.calls (a0_0 a0_1 a0_2 a0_3 a0_4 : Int) (A0_5 : Option Addr) (c0_5 : Nat) (l0_5 : List Int) (A0_6 : Option Addr) (c0_6 : Nat) (l0_6 : List Int) (A0_7 : Option Addr) (c0_7 : Nat) (l0_7 : List (List Int)) (r : Bool) (w : World) (hr0_5 : Kd.C (Kd.int .i64) w A0_5 l0_5.length l0_5) (hc0_5 : l0_5.length ≤ c0_5) (hr0_6 : Kd.C (Kd.int .i64) w A0_6 l0_6.length l0_6) (hc0_6 : l0_6.length ≤ c0_6) (hr0_7 : Kd.C (Kd.slice 5 (Kd.int .u8)) w A0_7 l0_7.length l0_7) (hc0_7 : l0_7.length ≤ c0_7) (h : culletlaw11_one.f a0_0 a0_1 a0_2 a0_3 a0_4 l0_5 l0_6 l0_7 = some r) :
    Calls Try.prog 56 #[.agg #[.int .i64 a0_0, .int .i64 a0_1, .int .i64 a0_2, .int .i64 a0_3, .int .i64 a0_4, .slice A0_5 l0_5.length c0_5, .slice A0_6 l0_6.length c0_6, .slice A0_7 l0_7.length c0_7]] w fun e w' => e = .returned (.bool r) ∧ Below w.heap.size w w' := by
  unfold culletlaw11_one.f at h
  split at h
  · rename_i hg
    obtain rfl := Option.some.inj h
    obtain ⟨hkind, ⟨b11, b12, b21, b22, b31, b32, b41, b42⟩, b5, b6, b7, b8⟩ := hg
    rcases hkind with rfl
    all_goals first
      | exact one_4 a0_1 a0_2 a0_3 a0_4 A0_5 c0_5 l0_5 A0_6 c0_6 l0_6 A0_7 c0_7 l0_7 w ⟨hr0_5⟩ hc0_5 ⟨hr0_6⟩ hc0_6 ⟨hr0_7⟩ hc0_7 b22 b32 b5 b6 b7 ⟨b8⟩
  · exact absurd h (by simp)
end Go.Proofs.Ytkdoilmfchlpdaa.A
