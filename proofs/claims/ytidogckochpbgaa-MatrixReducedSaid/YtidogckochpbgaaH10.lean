import Derived.Test.YtidogckochpbgaaRedFacts
import Derived.Test.YtidogckochpbgaaSolveLaw
namespace Go.Proofs.Ytidogckochpbgaa.A
open Go.RowKit Go.Deep Go.Proofs.YtidogckochpbgaaW.PrintWords Go.Proofs.YtidogckochpbgaaW.PrintLast Go.Proofs.YtidogckochpbgaaW.PrintMore Go.Proofs.Ytidogckochpbgaa.R Go.Proofs.Ytidogckochpbgaa.B
set_option linter.unusedVariables false
set_option linter.unusedSimpArgs false
/-- A row of rows that are read. -/
theorem row_C {W : World} {A : Option Addr} {E i : Nat} {l : List (List Int)} (hi : i < l.length) (h : (Kd.slice E (Kd.int .u8)).C W A l.length l) :
    ∃ ad, A = some ad ∧ ∃ (f : Option Addr) (cp : Nat), W.cell? (ad.add i) = some (.slice f (l.getD i []).length cp) ∧ (l.getD i []).length ≤ cp ∧ (Kd.int .u8).C W f (l.getD i []).length (l.getD i []) := by
  obtain ⟨_, _, h3⟩ := h
  obtain ⟨ad, e, hcell⟩ := h3 (by omega)
  have e1 : l[i]? = some (l.getD i []) := by rw [List.getD_eq_getElem?_getD, List.getElem?_eq_getElem hi]; rfl
  obtain ⟨cs, hl, ⟨A', cp, rfl, hle, hC⟩, hu⟩ := hcell i _ e1
  refine ⟨ad, e, A', cp, ?_, hle, hC⟩
  have := hu 0 _ rfl
  rw [show i * (Kd.slice E (Kd.int .u8)).sz + 0 = i from by simp [Kd.slice]] at this
  exact this
theorem wake_red : matrix_Reduce.f [[0, 2], [0, 1]] = some ([[0, 1], [0, 0]], [1], 0) := by decide +kernel
set_option maxHeartbeats 8000000 in
set_option maxRecDepth 100000 in
theorem MatrixReduced_walk (w : World) (l : List (List Int)) (A0 : Option Addr) (c0 : Nat) (hr0 : Kd.C (Kd.slice 5 (Kd.int .u8)) w A0 l.length l) (hc0 : l.length ≤ c0) (hb : byt l = true) :
    Calls Try.prog 6 #[.slice A0 l.length c0] w fun e w' => e = .returned (.bool true) ∧ Below w.heap.size w w' := by
  obtain ⟨k1, hk1⟩ := (Same_self (l := [[0, 1], [0, 0]]) (by decide) (by decide)).rounds
  obtain ⟨k2, hk2⟩ := (SameInts_self (l := [1]) (by decide)).rounds
  obtain ⟨k3, hk3⟩ := (Side_any l).rounds
  have H0 := Aside0.mk hr0
  have HC0 := Aside0.mk hc0
  have K1 := Aside0.mk hk1
  have K2 := Aside0.mk hk2
  have K3 := Aside0.mk hk3
  have HY := Aside0.mk hb
  clear hr0 hc0 hk1 hk2 hk3 hb
  go_enter Try.func6, Try.ntmps6
  go_wp2_with (first | ((with_reducible refine gate_dst (N := 17) rfl ?_); (try (refine gate_guard (by rfl) ?_; dsimp only)); refine Kd.R_lit (Kd.int .u8) _ 5 ?hg (N := 17) ?hd (xs := ([0, 2] : List Int)) (inner := [.int .u8 0, .int .u8 2]) (ok := fun _ => True) (okp := fun _ => True) ?hr ?hp (fun _ hk => hk) trivial (Below.refl _ _) (Nat.le_refl _) (by simp) ?_; (case hd => rfl); (case hg => rfl); (case hr => first | (go_simp; done) | (go_simp; rfl)); (case hp => exact (Reps.one (show Kd.M (Kd.int .u8) _ _ _ 0 [.int .u8 0] from rfl) (Reps.one (show Kd.M (Kd.int .u8) _ _ _ 2 [.int .u8 2] from rfl) (Reps.none _ _)))); intro va wa hoa hba hg_ hnew_; clear hg_ hnew_; have Oa := Aside0.mk hoa; have Ba := Aside0.mk hba; clear hoa hba; obtain ⟨Aa, ca, ea⟩ := Kd.R_slice Oa.out; subst ea) | ((with_reducible refine gate_dst (N := 18) rfl ?_); (try (refine gate_guard (by rfl) ?_; dsimp only)); refine Kd.R_lit (Kd.int .u8) _ 5 ?hg (N := 18) ?hd (xs := ([0, 1] : List Int)) (inner := [.int .u8 0, .int .u8 1]) (ok := fun _ => True) (okp := fun _ => True) ?hr ?hp (fun _ hk => hk) trivial (Below.refl _ _) (Nat.le_refl _) (by simp) ?_; (case hd => rfl); (case hg => rfl); (case hr => first | (go_simp; done) | (go_simp; rfl)); (case hp => exact (Reps.one (show Kd.M (Kd.int .u8) _ _ _ 0 [.int .u8 0] from rfl) (Reps.one (show Kd.M (Kd.int .u8) _ _ _ 1 [.int .u8 1] from rfl) (Reps.none _ _)))); intro vb wb hob hbb hg_ hnew_; clear hg_ hnew_; have Ob := Aside0.mk hob; have Bb := Aside0.mk hbb; clear hob hbb; obtain ⟨Ab, cb, eb⟩ := Kd.R_slice Ob.out; subst eb) | ((with_reducible refine gate_dst (N := 19) rfl ?_); (try (refine gate_guard (by rfl) ?_; dsimp only)); refine Kd.N_lit (Kd.slice 5 (Kd.int .u8)) _ 31 ?hg (N' := 19) ?hd (xs := ([[0, 2], [0, 1]] : List (List Int))) (inner := [.slice Aa ([0, 2] : List Int).length ca, .slice Ab ([0, 1] : List Int).length cb]) (ok := fun _ => True) (okp := fun _ => True) ?hr ?hp (fun _ hk => hk) trivial (Below.refl _ _) (Nat.le_refl _) (by simp) ?_; (case hd => rfl); (case hg => rfl); (case hr => first | (go_simp; done) | (go_simp; rfl)); (case hp => exact (Reps.one (show Kd.FK (Kd.slice 5 (Kd.int .u8)) _ _ [0, 2] [.slice Aa [0, 2].length ca] from Kd.FK_slice_mk (Kd.R_reads' (Kd.R_below Oa.out Bb.out)).2.1 (Kd.R_F (Kd.R_below Oa.out Bb.out))) (Reps.one (show Kd.FK (Kd.slice 5 (Kd.int .u8)) _ _ [0, 1] [.slice Ab [0, 1].length cb] from Kd.FK_slice_mk (Kd.R_reads' Ob.out).2.1 (Kd.R_F Ob.out)) (Reps.none _ _)))); intro vc wc hoc hbc hg_ hnew_; clear hg_ hnew_; have Oc := Aside0.mk hoc; have Bc := Aside0.mk hbc; clear hoc hbc; obtain ⟨Ac, cc, ec⟩ := Kd.N_slice Oc.out; subst ec))
  refine (matrix_Reduce.calls _ _ [[0, 2], [0, 1]] [[0, 1], [0, 0]] [1] 0 _ (Kd.N_reads' Oc.out).2.2 (Kd.N_reads' Oc.out).2.1 wake_red).mono ?_
  rintro e wd ⟨vm, vp, rfl, hS, hR, hbd⟩
  obtain ⟨Am, cm, rfl⟩ := Kd.S_slice hS
  obtain ⟨Ap, cp, rfl⟩ := Kd.R_slice hR
  have OM := Aside0.mk (Kd.S_reads' hS)
  have OP := Aside0.mk (Kd.R_reads' hR)
  have BD := Aside0.mk ((((Below.refl w.heap.size w).trans (Ba.out.mono (Nat.le_refl _))).trans (Bb.out.mono Ba.out.size)).trans ((Bc.out.mono (Nat.le_trans Ba.out.size Bb.out.size)).trans (hbd.mono (Nat.le_trans Ba.out.size (Nat.le_trans Bb.out.size Bc.out.size)))))
  clear hS hR hbd Oa Ob Oc Ba Bb Bc
  go_wp2_with (first | ((with_reducible refine gate_dst (N := 28) rfl ?_); (try (refine gate_guard (by rfl) ?_; dsimp only)); refine Kd.R_lit (Kd.int .u8) _ 5 ?hg (N := 28) ?hd (xs := ([0, 1] : List Int)) (inner := [.int .u8 0, .int .u8 1]) (ok := fun _ => True) (okp := fun _ => True) ?hr ?hp (fun _ hk => hk) trivial (Below.refl _ _) (Nat.le_refl _) (by simp) ?_; (case hd => rfl); (case hg => rfl); (case hr => first | (go_simp; done) | (go_simp; rfl)); (case hp => exact (Reps.one (show Kd.M (Kd.int .u8) _ _ _ 0 [.int .u8 0] from rfl) (Reps.one (show Kd.M (Kd.int .u8) _ _ _ 1 [.int .u8 1] from rfl) (Reps.none _ _)))); intro va wa hoa hba hg_ hnew_; clear hg_ hnew_; have Oa := Aside0.mk hoa; have Ba := Aside0.mk hba; clear hoa hba; obtain ⟨Aa, ca, ea⟩ := Kd.R_slice Oa.out; subst ea) | ((with_reducible refine gate_dst (N := 29) rfl ?_); (try (refine gate_guard (by rfl) ?_; dsimp only)); refine Kd.R_lit (Kd.int .u8) _ 5 ?hg (N := 29) ?hd (xs := ([0, 0] : List Int)) (inner := [.int .u8 0, .int .u8 0]) (ok := fun _ => True) (okp := fun _ => True) ?hr ?hp (fun _ hk => hk) trivial (Below.refl _ _) (Nat.le_refl _) (by simp) ?_; (case hd => rfl); (case hg => rfl); (case hr => first | (go_simp; done) | (go_simp; rfl)); (case hp => exact (Reps.one (show Kd.M (Kd.int .u8) _ _ _ 0 [.int .u8 0] from rfl) (Reps.one (show Kd.M (Kd.int .u8) _ _ _ 0 [.int .u8 0] from rfl) (Reps.none _ _)))); intro vb wb hob hbb hg_ hnew_; clear hg_ hnew_; have Ob := Aside0.mk hob; have Bb := Aside0.mk hbb; clear hob hbb; obtain ⟨Ab, cb, eb⟩ := Kd.R_slice Ob.out; subst eb) | ((with_reducible refine gate_dst (N := 30) rfl ?_); (try (refine gate_guard (by rfl) ?_; dsimp only)); refine Kd.N_lit (Kd.slice 5 (Kd.int .u8)) _ 31 ?hg (N' := 30) ?hd (xs := ([[0, 1], [0, 0]] : List (List Int))) (inner := [.slice Aa ([0, 1] : List Int).length ca, .slice Ab ([0, 0] : List Int).length cb]) (ok := fun _ => True) (okp := fun _ => True) ?hr ?hp (fun _ hk => hk) trivial (Below.refl _ _) (Nat.le_refl _) (by simp) ?_; (case hd => rfl); (case hg => rfl); (case hr => first | (go_simp; done) | (go_simp; rfl)); (case hp => exact (Reps.one (show Kd.FK (Kd.slice 5 (Kd.int .u8)) _ _ [0, 1] [.slice Aa [0, 1].length ca] from Kd.FK_slice_mk (Kd.R_reads' (Kd.R_below Oa.out Bb.out)).2.1 (Kd.R_F (Kd.R_below Oa.out Bb.out))) (Reps.one (show Kd.FK (Kd.slice 5 (Kd.int .u8)) _ _ [0, 0] [.slice Ab [0, 0].length cb] from Kd.FK_slice_mk (Kd.R_reads' Ob.out).2.1 (Kd.R_F Ob.out)) (Reps.none _ _)))); intro vc wc hoc hbc hg_ hnew_; clear hg_ hnew_; have Oc := Aside0.mk hoc; have Bc := Aside0.mk hbc; clear hoc hbc; obtain ⟨Ac, cc, ec⟩ := Kd.N_slice Oc.out; subst ec))
  have OM2 := Aside0.mk (Kd.C_below (Kd.C_below (Kd.C_below OM.out.2.2 Ba.out) Bb.out) Bc.out)
  refine (culletlaw10_same.calls k1 _ _ [[0, 1], [0, 0]] _ _ [[0, 1], [0, 0]] true _ OM2.out OM.out.2.1 (Kd.N_reads' Oc.out).2.2 (Kd.N_reads' Oc.out).2.1 K1.out).mono ?_
  rintro e we ⟨rfl, hD⟩
  have OP2 := Aside0.mk (Kd.C_below (Kd.C_below (Kd.C_below (Kd.C_below OP.out.2.2 Ba.out) Bb.out) Bc.out) hD.below)
  have BE := Aside0.mk (BD.out.trans ((((Ba.out.mono BD.out.size).trans (Bb.out.mono (Nat.le_trans BD.out.size Ba.out.size))).trans (Bc.out.mono (Nat.le_trans BD.out.size (Nat.le_trans Ba.out.size Bb.out.size)))).trans (hD.below.mono (Nat.le_trans BD.out.size (Nat.le_trans Ba.out.size (Nat.le_trans Bb.out.size Bc.out.size))))))
  clear hD Oa Ob Oc Ba Bb Bc OM OM2 BD
  go_wp2_with (first | ((with_reducible refine gate_dst (N := 36) rfl ?_); (try (refine gate_guard (by rfl) ?_; dsimp only)); refine Kd.R_lit (Kd.int .i64) _ 3 ?hg (N := 36) ?hd (xs := ([1] : List Int)) (inner := [.int .i64 1]) (ok := fun _ => True) (okp := fun _ => True) ?hr ?hp (fun _ hk => hk) trivial (Below.refl _ _) (Nat.le_refl _) (by simp) ?_; (case hd => rfl); (case hg => rfl); (case hr => first | (go_simp; done) | (go_simp; rfl)); (case hp => exact (Reps.one (show Kd.M (Kd.int .i64) _ _ _ 1 [.int .i64 1] from rfl) (Reps.none _ _))); intro vd wd hod hbd hg_ hnew_; clear hg_ hnew_; have Od := Aside0.mk hod; have Bd := Aside0.mk hbd; clear hod hbd; obtain ⟨Ad, cd, ed⟩ := Kd.R_slice Od.out; subst ed))
  refine (culletlaw10_sameInts.calls k2 _ _ [1] _ _ [1] true _ (Kd.C_below OP2.out Bd.out) OP.out.2.1 (Kd.R_reads' Od.out).2.2 (Kd.R_reads' Od.out).2.1 K2.out).mono ?_
  rintro e wf ⟨rfl, hD⟩
  have BF := Aside0.mk (BE.out.trans ((Bd.out.mono BE.out.size).trans (hD.below.mono (Nat.le_trans BE.out.size Bd.out.size))))
  clear hD Od Bd BE OP OP2
  go_wp2_with fail
  refine (culletlaw10_side.calls k3 _ c0 l _ _ (Kd.C_below H0.out BF.out) HC0.out K3.out).mono ?_
  rintro e wg ⟨rfl, hD⟩
  have BG := Aside0.mk (BF.out.trans (hD.below.mono BF.out.size))
  clear hD BF K3
  have hch := Check_any l
  by_cases hc : chk l = true
  · simp only [if_pos hc]
    obtain ⟨m1, m2, v1, v2, -⟩ := chk_iff.1 hc
    obtain ⟨ad, rfl, f0, p0, hf0⟩ := first_row m1 v1 H0.out
    have hf0' := pw_cell_below BG.out hf0
    obtain ⟨W, hW⟩ : ∃ W, W = (l.getD 0 []).length := ⟨_, rfl⟩
    have hW' : wid l = W := hW.symm
    rw [hW'] at v1 v2
    rw [← hW] at hf0 hf0'
    have HW := Aside0.mk hW'
    clear hW hW'
    have e0 : ((l.length : Int) == 0) = false := beq_eq_false_iff_ne.2 (by omega)
    by_cases hn : l.length ≤ 64
    · by_cases hw : W ≤ 64
      · obtain ⟨M, T, N, P, ps, f1, f2, f3, ⟨ks, f4⟩, fP, f5, ⟨kt, f6⟩, f7, ⟨kn, f8⟩, f9, F1, F2, F3⟩ := reduced_facts hc HY.out (by rw [HW.out]; omega)
        rw [HW.out] at f3 f9 F2 F3
        have X1 := Aside0.mk f1
        have X3 := Aside0.mk f3
        have X4 := Aside0.mk f4
        have X5 := Aside0.mk f5
        have X6 := Aside0.mk f6
        have X7 := Aside0.mk f7
        have X8 := Aside0.mk f8
        have XP := Aside0.mk fP
        have Y1 := Aside0.mk F1
        have Y2 := Aside0.mk F2
        have Y3 := Aside0.mk F3
        have XT := Aside0.mk (twin_of hc)
        have X9 := Aside0.mk f9
        have hsum : IntKind.i64.wrap ((N.length : Int) + (P.length : Int)) = (W : Int) := by
          rw [IntKind.wrap_i64]; omega
        have HSUM := Aside0.mk hsum
        clear f1 f3 f4 f5 f6 f7 f8 f9 fP F1 F2 F3 hc hch hsum
        go_wp2_with fail
        refine (culletlaw10_twin.calls _ c0 l l _ (Kd.C_below H0.out BG.out) HC0.out XT.out).mono ?_
        rintro e w5 ⟨v1_, rfl, hS, hb⟩
        obtain ⟨At1, ct1, rfl⟩ := Kd.S_slice hS
        have B5 := Aside0.mk (BG.out.trans (hb.mono BG.out.size))
        go_wp2_with fail
        refine (matrix_Reduce.calls _ _ l M P 0 _ (Kd.S_reads' hS).2.2 (Kd.S_reads' hS).2.1 X1.out).mono ?_
        rintro e w6 ⟨vm, vp, rfl, hSm, hRp, hb6⟩
        obtain ⟨Am, cm, rfl⟩ := Kd.S_slice hSm
        obtain ⟨Ap, cp, rfl⟩ := Kd.R_slice hRp
        have CM := Aside0.mk (Kd.S_reads' hSm)
        have CP := Aside0.mk (Kd.R_reads' hRp)
        have B6 := Aside0.mk (B5.out.trans (hb6.mono B5.out.size))
        clear hS hb hSm hRp hb6 B5 hf0'
        have e2 : ((M.length : Int) != (l.length : Int)) = false := bne_eq_false_iff_eq.2 (by omega)
        have X2 := Aside0.mk f2
        clear f2
        go_wp2_with fail
        go_loopg [7] l.length (fun kq v7 wr => ∃ k, kq = l.length - k ∧ k ≤ l.length ∧ v7 = .int .i64 (k : Int) ∧ Below w6.heap.size w6 wr)
        case atStart => exact ⟨0, rfl, Nat.zero_le _, rfl, Below.refl _ _⟩
        case round =>
          obtain ⟨k, rfl, hk, rfl, hB⟩ := hrel
          have HB := Aside0.mk hB
          have B7 := Aside0.mk (B6.out.trans (hB.mono B6.out.size))
          clear hB
          by_cases hlt : k < l.length
          · obtain ⟨am, em, fm, pm, hm1, hm2, hm3⟩ := row_C (i := k) (by rw [X2.out]; exact hlt) (Kd.C_below CM.out.2.2 HB.out)
            subst em
            rw [X3.out k hlt] at hm1
            have hm0 := pw_cell_below B7.out hf0
            have hkM : k < M.length := by rw [X2.out]; exact hlt
            clear hm2 hm3
            go_wp2_with fail
            go_quiet (fail)
            go_wp2_with fail
            have hq := Aside0.mk (pw_below_drewN (Below.refl w6.heap.size w6) nq)
            go_roundg (l.length - (k + 1))
            case measure => omega
            case rel => exact ⟨k + 1, rfl, by omega, by go_num, (HB.out.trans (pw_below_drewN (Below.refl _ _) _))⟩
          · have hm0 := pw_cell_below B7.out hf0
            have e3 : ((P.length : Int) != (P.length : Int)) = false := bne_self_eq_false _
            go_wp2_with fail
            refine (culletlaw10_twin.calls _ c0 l l _ (Kd.C_below H0.out B7.out) HC0.out XT.out).mono ?_
            rintro e w8 ⟨v2_, rfl, hS, hb⟩
            obtain ⟨At2, ct2, rfl⟩ := Kd.S_slice hS
            have B8 := Aside0.mk (HB.out.trans (hb.mono HB.out.size))
            clear hb
            go_wp2_with fail
            refine (matrix_Rank.calls _ _ l _ 0 _ (Kd.S_reads' hS).2.2 (Kd.S_reads' hS).2.1 X5.out).mono ?_
            rintro e w9 ⟨rfl, hb⟩
            have B9 := Aside0.mk (B8.out.trans (hb.mono B8.out.size))
            clear hb hS B8
            go_wp2_with fail
            refine (culletlaw10_stairs.calls ks _ _ M _ _ P true _ (Kd.C_below CM.out.2.2 B9.out) CM.out.2.1 (Kd.C_below CP.out.2.2 B9.out) CP.out.2.1 X4.out).mono ?_
            rintro e w10 ⟨rfl, hD⟩
            have B10 := Aside0.mk (B9.out.trans (hD.below.mono B9.out.size))
            clear hD B9
            go_wp2_with fail
            refine (culletlaw10_twin.calls _ c0 l l _ (Kd.C_below H0.out (B6.out.trans (B10.out.mono B6.out.size))) HC0.out XT.out).mono ?_
            rintro e w11 ⟨v3_, rfl, hS, hb⟩
            obtain ⟨At3, ct3, rfl⟩ := Kd.S_slice hS
            have B11 := Aside0.mk (B10.out.trans (hb.mono B10.out.size))
            clear hb B10
            go_wp2_with fail
            refine (matrix_Transpose.calls kt _ _ l T 0 _ (Kd.S_reads' hS).2.2 (Kd.S_reads' hS).2.1 X6.out).mono ?_
            rintro e w12 ⟨v4_, rfl, hS2, hb⟩
            obtain ⟨Att, ctt, rfl⟩ := Kd.S_slice hS2
            have B12 := Aside0.mk (B11.out.trans (hb.mono B11.out.size))
            clear hb B11 hS
            go_wp2_with fail
            refine (matrix_Rank.calls _ _ T _ 0 _ (Kd.S_reads' hS2).2.2 (Kd.S_reads' hS2).2.1 X7.out).mono ?_
            rintro e w13 ⟨rfl, hb⟩
            have B13 := Aside0.mk (B12.out.trans (hb.mono B12.out.size))
            clear hb B12 hS2
            go_wp2_with fail
            refine (culletlaw10_twin.calls _ c0 l l _ (Kd.C_below H0.out (B6.out.trans (B13.out.mono B6.out.size))) HC0.out XT.out).mono ?_
            rintro e w14 ⟨v5_, rfl, hS, hb⟩
            obtain ⟨At4, ct4, rfl⟩ := Kd.S_slice hS
            have B14 := Aside0.mk (B13.out.trans (hb.mono B13.out.size))
            clear hb B13
            go_wp2_with fail
            refine (matrix_Null.calls kn _ _ l N 0 _ (Kd.S_reads' hS).2.2 (Kd.S_reads' hS).2.1 X8.out).mono ?_
            rintro e w15 ⟨v6_, rfl, hSn, hb⟩
            obtain ⟨An, cn, rfl⟩ := Kd.S_slice hSn
            have CN := Aside0.mk (Kd.S_reads' hSn)
            have B15 := Aside0.mk (B14.out.trans (hb.mono B14.out.size))
            have BW := Aside0.mk (B6.out.trans (B15.out.mono B6.out.size))
            have CM2 := Aside0.mk (Kd.C_below CM.out.2.2 B15.out)
            have CP2 := Aside0.mk (Kd.C_below CP.out.2.2 B15.out)
            have CMc := Aside0.mk CM.out.2.1
            have CPc := Aside0.mk CP.out.2.1
            clear hb B14 hS hSn hm0 CM CP B7 HB B15 B6 hlt hk
            have hm0 := pw_cell_below BW.out hf0
            have hsum := HSUM.out
            go_wp2_with fail
            clear hsum e2 e3 hm0
            go_loopg [12, 13, 14, 15] W (fun kq v12 v13 v14 v15 wr => ∃ f a q, kq = W - f ∧ f ≤ W ∧ LA.At ps q f ∧ a + q = f ∧ v12 = .int .i64 (a : Int) ∧ v13 = .int .i64 (f : Int) ∧ Below w15.heap.size w15 wr)
            case atStart => exact ⟨0, 0, 0, rfl, Nat.zero_le _, LA.At.start ps, rfl, rfl, rfl, Below.refl _ _⟩
            case round =>
              obtain ⟨f, a, q, rfl, hfW, hA, haq, rfl, rfl, hB⟩ := hrel
              have HB := Aside0.mk hB
              have BR := Aside0.mk (BW.out.trans (hB.mono BW.out.size))
              have HA := Aside0.mk hA
              clear hA hB
              have hm0 := pw_cell_below BR.out hf0
              by_cases hlt : f < W
              · have hPl : P.length = ps.length := by rw [XP.out, pin_len]
                have hsub : IntKind.i64.wrap ((f : Int) - (a : Int)) = (q : Int) := by rw [IntKind.wrap_i64]; omega
                by_cases hq : q < P.length
                · obtain ⟨ap, ep, hcell⟩ := int_get (Kd.C_below CP2.out HB.out) (by omega)
                  subst ep
                  have hpc := hcell q hq
                  have hpp : P.getD q 0 = ((ps.getD q 0 : Nat) : Int) := by
                    have := pin_rd (ps := ps) (i := q) (by omega)
                    unfold rd at this
                    rw [XP.out]
                    rwa [Int.toNat_natCast] at this
                  rw [hpp] at hpc
                  obtain ⟨p, hp⟩ : ∃ p, p = ps.getD q 0 := ⟨_, rfl⟩
                  rw [← hp] at hpc
                  by_cases e : p = f
                  · have hA2 := Aside0.mk (Y1.out q f HA.out (by omega) (hp ▸ e))
                    have haq2 := Aside0.mk haq
                    have HP2 := Aside0.mk hPl
                    clear hcell hpp hp hPl haq
                    subst e
                    go_wp2
                    go_roundg (W - (p + 1))
                    case measure => omega
                    case rel => exact ⟨p + 1, a, q + 1, rfl, by omega, hA2.out, by have := haq2.out; omega, rfl, by go_num, HB.out⟩
                  · have hno : ¬ (q < ps.length ∧ ps.getD q 0 = f) := fun h => e (hp.trans h.2)
                    clear hcell hpp hp hPl
                    obtain ⟨hA2, haN, hlen, ⟨ku, hu⟩, hends⟩ := Y2.out q f a HA.out haq hlt hno
                    obtain ⟨an, en, fv, pv, hv1, hv2, hv3⟩ := row_C (i := a) haN (Kd.C_below CN.out.2.2 HB.out)
                    subst en
                    obtain ⟨V, hV⟩ : ∃ V, V = N.getD a [] := ⟨_, rfl⟩
                    rw [← hV] at hlen hu hends hv1 hv2 hv3
                    have e5 : ((V.length : Int) != (W : Int)) = false := bne_eq_false_iff_eq.2 (by omega)
                    have Z1 := Aside0.mk hA2
                    have Z2 := Aside0.mk hu
                    have Z3 := Aside0.mk hends
                    have Z4 := Aside0.mk hv3
                    have Z5 := Aside0.mk hv2
                    have Z6 := Aside0.mk haq
                    clear hA2 hu hends hv3 hv2 hlen hV
                    go_wp2_with fail
                    refine (culletlaw10_unit.calls ku fv pv V (f : Int) _ _ P true _ Z4.out Z5.out (Kd.C_below CP2.out HB.out) CPc.out Z2.out).mono ?_
                    rintro e wu ⟨rfl, hD⟩
                    have BU := Aside0.mk (HB.out.trans (hD.below.mono HB.out.size))
                    have CV := Aside0.mk (Kd.C_below Z4.out hD.below)
                    clear hD hv1 hm0 e5 HB
                    go_wp2_with fail
                    go_loopg [15] l.length (fun kq v15 wr => ∃ r, kq = l.length - r ∧ r ≤ l.length ∧ v15 = .int .i64 (r : Int) ∧ Below wu.heap.size wu wr)
                    case atStart => exact ⟨0, rfl, Nat.zero_le _, rfl, Below.refl _ _⟩
                    case round =>
                      obtain ⟨r, rfl, hrle, rfl, hB2⟩ := hrel
                      have HB2 := Aside0.mk (BU.out.trans (hB2.mono BU.out.size))
                      have CV2 := Aside0.mk (Kd.C_below CV.out hB2)
                      have HBu := Aside0.mk hB2
                      clear hB2
                      by_cases hr : r < l.length
                      · obtain ⟨ad', e', fl, pl, hl1, hl2, hl3⟩ := row_C (i := r) hr (Kd.C_below H0.out (BW.out.trans (HB2.out.mono BW.out.size)))
                        obtain rfl := Option.some.inj e'
                        have hrM : r < M.length := by rw [X2.out]; exact hr
                        obtain ⟨am, em, fm, pm, hm1, hm2, hm3⟩ := row_C (i := r) hrM (Kd.C_below CM2.out HB2.out)
                        subst em
                        obtain ⟨⟨k5, h5⟩, ⟨k6, h6⟩⟩ := Z3.out r hr
                        obtain ⟨L, hL⟩ : ∃ L, L = l.getD r [] := ⟨_, rfl⟩
                        obtain ⟨K, hK⟩ : ∃ K, K = M.getD r [] := ⟨_, rfl⟩
                        rw [← hL] at hl1 hl2 hl3 h5
                        rw [← hK] at hm1 hm2 hm3 h6
                        have U1 := Aside0.mk hl2
                        have U2 := Aside0.mk hl3
                        have U3 := Aside0.mk hm2
                        have U4 := Aside0.mk hm3
                        have U5 := Aside0.mk h5
                        have U6 := Aside0.mk h6
                        clear hl2 hl3 hm2 hm3 h5 h6 hL hK e'
                        go_wp2_with fail
                        refine (culletlaw10_ends.calls k5 fl pl L fv pv V true _ U2.out U1.out CV2.out Z5.out U5.out).mono ?_
                        rintro e w20 ⟨rfl, hD⟩
                        have hm1' := pw_cell_below hD.below hm1
                        have U7 := Aside0.mk (Kd.C_below U4.out hD.below)
                        have CV3 := Aside0.mk (Kd.C_below CV2.out hD.below)
                        have HB3 := Aside0.mk (HBu.out.trans (hD.below.mono HBu.out.size))
                        clear hm1 hl1 hD
                        go_wp2_with fail
                        refine (culletlaw10_ends.calls k6 fm pm K fv pv V true _ U7.out U3.out CV3.out Z5.out U6.out).mono ?_
                        rintro e w21 ⟨rfl, hD⟩
                        have HB4 := Aside0.mk (HB3.out.trans (hD.below.mono HB3.out.size))
                        clear hD hm1'
                        go_wp2_with fail
                        go_roundg (l.length - (r + 1))
                        case measure => omega
                        case rel => exact ⟨r + 1, rfl, by omega, by go_num, HB4.out⟩
                      · by_cases hend : a + 1 = N.length
                        · have e6 : (((a + 1 : Nat) : Int) == (N.length : Int)) = true := beq_iff_eq.2 (by omega)
                          go_wp2
                          go_ret
                          exact ⟨rfl, BW.out.trans (HB2.out.mono BW.out.size)⟩
                        · have e6 : (((a + 1 : Nat) : Int) == (N.length : Int)) = false := beq_eq_false_iff_ne.2 (by omega)
                          go_wp2
                          go_roundg (W - (f + 1))
                          case measure => omega
                          case rel => exact ⟨f + 1, a + 1, q, rfl, by omega, Z1.out, by omega, by go_num, by go_num, HB2.out⟩
                · have hno : ¬ (q < ps.length ∧ ps.getD q 0 = f) := fun h => hq (by rw [hPl]; exact h.1)
                  clear hPl
                  obtain ⟨hA2, haN, hlen, ⟨ku, hu⟩, hends⟩ := Y2.out q f a HA.out haq hlt hno
                  obtain ⟨an, en, fv, pv, hv1, hv2, hv3⟩ := row_C (i := a) haN (Kd.C_below CN.out.2.2 HB.out)
                  subst en
                  obtain ⟨V, hV⟩ : ∃ V, V = N.getD a [] := ⟨_, rfl⟩
                  rw [← hV] at hlen hu hends hv1 hv2 hv3
                  have e5 : ((V.length : Int) != (W : Int)) = false := bne_eq_false_iff_eq.2 (by omega)
                  have Z1 := Aside0.mk hA2
                  have Z2 := Aside0.mk hu
                  have Z3 := Aside0.mk hends
                  have Z4 := Aside0.mk hv3
                  have Z5 := Aside0.mk hv2
                  have Z6 := Aside0.mk haq
                  clear hA2 hu hends hv3 hv2 hlen hV
                  go_wp2_with fail
                  refine (culletlaw10_unit.calls ku fv pv V (f : Int) _ _ P true _ Z4.out Z5.out (Kd.C_below CP2.out HB.out) CPc.out Z2.out).mono ?_
                  rintro e wu ⟨rfl, hD⟩
                  have BU := Aside0.mk (HB.out.trans (hD.below.mono HB.out.size))
                  have CV := Aside0.mk (Kd.C_below Z4.out hD.below)
                  clear hD hv1 hm0 e5 HB
                  go_wp2_with fail
                  go_loopg [15] l.length (fun kq v15 wr => ∃ r, kq = l.length - r ∧ r ≤ l.length ∧ v15 = .int .i64 (r : Int) ∧ Below wu.heap.size wu wr)
                  case atStart => exact ⟨0, rfl, Nat.zero_le _, rfl, Below.refl _ _⟩
                  case round =>
                    obtain ⟨r, rfl, hrle, rfl, hB2⟩ := hrel
                    have HB2 := Aside0.mk (BU.out.trans (hB2.mono BU.out.size))
                    have CV2 := Aside0.mk (Kd.C_below CV.out hB2)
                    have HBu := Aside0.mk hB2
                    clear hB2
                    by_cases hr : r < l.length
                    · obtain ⟨ad', e', fl, pl, hl1, hl2, hl3⟩ := row_C (i := r) hr (Kd.C_below H0.out (BW.out.trans (HB2.out.mono BW.out.size)))
                      obtain rfl := Option.some.inj e'
                      have hrM : r < M.length := by rw [X2.out]; exact hr
                      obtain ⟨am, em, fm, pm, hm1, hm2, hm3⟩ := row_C (i := r) hrM (Kd.C_below CM2.out HB2.out)
                      subst em
                      obtain ⟨⟨k5, h5⟩, ⟨k6, h6⟩⟩ := Z3.out r hr
                      obtain ⟨L, hL⟩ : ∃ L, L = l.getD r [] := ⟨_, rfl⟩
                      obtain ⟨K, hK⟩ : ∃ K, K = M.getD r [] := ⟨_, rfl⟩
                      rw [← hL] at hl1 hl2 hl3 h5
                      rw [← hK] at hm1 hm2 hm3 h6
                      have U1 := Aside0.mk hl2
                      have U2 := Aside0.mk hl3
                      have U3 := Aside0.mk hm2
                      have U4 := Aside0.mk hm3
                      have U5 := Aside0.mk h5
                      have U6 := Aside0.mk h6
                      clear hl2 hl3 hm2 hm3 h5 h6 hL hK e'
                      go_wp2_with fail
                      refine (culletlaw10_ends.calls k5 fl pl L fv pv V true _ U2.out U1.out CV2.out Z5.out U5.out).mono ?_
                      rintro e w20 ⟨rfl, hD⟩
                      have hm1' := pw_cell_below hD.below hm1
                      have U7 := Aside0.mk (Kd.C_below U4.out hD.below)
                      have CV3 := Aside0.mk (Kd.C_below CV2.out hD.below)
                      have HB3 := Aside0.mk (HBu.out.trans (hD.below.mono HBu.out.size))
                      clear hm1 hl1 hD
                      go_wp2_with fail
                      refine (culletlaw10_ends.calls k6 fm pm K fv pv V true _ U7.out U3.out CV3.out Z5.out U6.out).mono ?_
                      rintro e w21 ⟨rfl, hD⟩
                      have HB4 := Aside0.mk (HB3.out.trans (hD.below.mono HB3.out.size))
                      clear hD hm1'
                      go_wp2_with fail
                      go_roundg (l.length - (r + 1))
                      case measure => omega
                      case rel => exact ⟨r + 1, rfl, by omega, by go_num, HB4.out⟩
                    · by_cases hend : a + 1 = N.length
                      · have e6 : (((a + 1 : Nat) : Int) == (N.length : Int)) = true := beq_iff_eq.2 (by omega)
                        go_wp2
                        go_ret
                        exact ⟨rfl, BW.out.trans (HB2.out.mono BW.out.size)⟩
                      · have e6 : (((a + 1 : Nat) : Int) == (N.length : Int)) = false := beq_eq_false_iff_ne.2 (by omega)
                        go_wp2
                        go_roundg (W - (f + 1))
                        case measure => omega
                        case rel => exact ⟨f + 1, a + 1, q, rfl, by omega, Z1.out, by omega, by go_num, by go_num, HB2.out⟩
              · have hfin := Y3.out q a (by rw [show W = f by omega]; exact HA.out) (by omega)
                have e6 : ((a : Int) == (N.length : Int)) = true := beq_iff_eq.2 (by omega)
                go_wp2
                go_ret
                exact ⟨rfl, BR.out⟩
      · go_wp2
        go_ret
        exact ⟨rfl, BG.out⟩
    · go_wp2
      go_ret
      exact ⟨rfl, BG.out⟩
  · simp only [if_neg hc]
    go_wp2
    go_ret
    exact ⟨rfl, BG.out⟩
end Go.Proofs.Ytidogckochpbgaa.A
