import Derived.Test.YtidogckochpbgaaH4
import Derived.Test.YtidogckochpbgaaSolveLaw
import Derived.Test.YtidogckochpbgaaAwakeMat
import Derived.Test.YtidogckochpbgaaCauchyDet
import Derived.Test.YtidogckochpbgaaAx1
namespace Go.Proofs.Ytidogckochpbgaa.A
open Go.RowKit Go.Deep Go.Proofs.YtidogckochpbgaaW.PrintWords Go.Proofs.YtidogckochpbgaaW.PrintLast Go.Proofs.YtidogckochpbgaaW.PrintMore Go.Proofs.Ytidogckochpbgaa.R Go.Proofs.Ytidogckochpbgaa.Q
set_option linter.unusedVariables false
set_option linter.unusedSimpArgs false
theorem mul8_g (a b : G8) (w : World) : Calls Try.prog 17 #[.int .u8 ((a.v : Nat) : Int), .int .u8 ((b.v : Nat) : Int)] w fun e w' => e = .returned (.int .u8 (((a * b).v : Nat) : Int)) ∧ Drawn0 w w' := by
  obtain ⟨k, hk⟩ := (Mul8 a.2 b.2).rounds
  exact gf8_Mul.calls k _ _ _ w hk
theorem pr_snoc {F : Type} [LA.Fld F] (g : Nat → F) (l : List Nat) (x : Nat) : LA.pr g (l ++ [x]) = LA.pr g l * g x := by
  rw [LA.pr_perm (List.perm_append_comm (l₁ := l) (l₂ := [x]))]
  exact LA.Fld.mul_comm _ _
theorem rag_put {W : World} {T E base g m k : Nat} {ik : IntKind} {wd b : Nat → Nat} {V : Nat → Nat → Int} (h : Rag W T E base g m k ik wd b V) {i j : Nat} (hi : i < k) (v : Int) : Rag (W.setCell ⟨b i, j, none⟩ (.int ik v)) T E base g m k ik wd b (fun a l => if a = i ∧ l = j then v else V a l) := by
  refine ⟨h.hd.setOther (Ne.symm (h.ne hi)) _, fun a ha => ?_, h.inj, h.ge, h.geb, h.te⟩
  by_cases e : a = i
  · subst e
    refine ((h.row a ha).set j _).congr (fun c _ => ?_)
    by_cases e2 : c = j
    · simp [e2]
    · simp [e2]
  · refine ((h.row a ha).setOther (fun e' => e (h.inj a i ha hi e')) _).congr (fun c _ => ?_)
    simp [e]
theorem rag_drawn {W : World} {T E base g m k n : Nat} {ik : IntKind} {wd b : Nat → Nat} {V : Nat → Nat → Int} (h : Rag W T E base g m k ik wd b V) : Rag (W.drewN n) T E base g m k ik wd b V := ⟨h.hd, h.row, h.inj, h.ge, h.geb, h.te⟩
section
variable (X Y : Nat → G8) (n : Nat)
/-- The product of the differences, as the loops make it. -/
def cU (k j : Nat) : G8 := (LA.W X k * LA.Wi X k (min j k)) * (LA.W Y k * LA.Wi Y k (min j k))
theorem cU_zero : cU X Y 0 0 = 1 := by unfold cU; simp only [LA.W_zero, Nat.min_self, LA.Wi_zero, LA.Fld.mul_one]
theorem cU_step {k j : Nat} (h : j < k) : cU X Y k j * ((X k + X j) * (Y k + Y j)) = cU X Y k (j + 1) := by
  unfold cU
  rw [Nat.min_eq_left (by omega), Nat.min_eq_left (show j + 1 ≤ k by omega), LA.Wi_succ, LA.Wi_succ]
  ac_rfl
theorem cU_stay {k j : Nat} (h : ¬ j < k) : cU X Y k j = cU X Y k (j + 1) := by
  unfold cU; rw [Nat.min_eq_right (by omega), Nat.min_eq_right (show k ≤ j + 1 by omega)]
theorem cU_next {k : Nat} (h : k ≤ n) : cU X Y k n = cU X Y (k + 1) 0 := by
  unfold cU
  rw [Nat.min_eq_right h, Nat.min_eq_left (Nat.zero_le _), LA.Wi_zero, LA.Wi_zero, LA.Fld.mul_one, LA.Fld.mul_one, LA.W_succ, LA.W_succ]
/-- The product of the sums. -/
def cD (k j : Nat) : G8 := LA.pr (fun i => LA.pr (fun c => X i + Y c) (List.range n)) (List.range k) * LA.pr (fun c => X k + Y c) (List.range j)
theorem cD_zero : cD X Y n 0 0 = 1 := by
  show (1 : G8) * 1 = 1
  exact LA.Fld.mul_one _
theorem cD_step (k j : Nat) : cD X Y n k j * (X k + Y j) = cD X Y n k (j + 1) := by
  unfold cD
  rw [List.range_succ (n := j), pr_snoc, LA.Fld.mul_assoc]
theorem cD_next (k : Nat) : cD X Y n k n = cD X Y n (k + 1) 0 := by
  unfold cD
  rw [List.range_succ (n := k), pr_snoc]
  exact (LA.Fld.mul_one _).symm
/-- The square, made as far as (i, j). -/
def cV (i j : Nat) : Nat → Nat → Int := fun a l => if a < i ∨ (a = i ∧ l < j) then (((LA.Fld.iv (X a + Y l)).v : Nat) : Int) else 0
theorem cU_end (h : ∀ i j, i < n → j < n → X i + Y j ≠ 0) : LA.det n (fun i j => LA.Fld.iv (X i + Y j)) * cD X Y n n 0 = cU X Y n 0 := by
  have := LA.det_cauchy n X Y h
  unfold cD cU
  rw [Nat.min_eq_left (Nat.zero_le _), LA.Wi_zero, LA.Wi_zero, LA.Fld.mul_one, LA.Fld.mul_one]
  rw [show LA.pr (fun c => X n + Y c) (List.range 0) = 1 from rfl, LA.Fld.mul_one]
  exact this
end
/-- Which squares the law speaks of. -/
def cauOk (R C : Int) (r c : List Int) : Prop := 1 ≤ R ∧ 1 ≤ C ∧ R ≤ 256 ∧ C ≤ 256 ∧ R + C ≤ 256 ∧ r.length = c.length ∧ 1 ≤ r.length ∧ r.length ≤ 16
set_option maxHeartbeats 8000000 in
set_option maxRecDepth 100000 in
theorem MatrixCauchy_walk (w : World) (R C : Int) (r c : List Int) (A2 A3 : Option Addr) (c2 c3 : Nat) (hr2 : Kd.C (Kd.int .i64) w A2 r.length r) (hc2 : r.length ≤ c2) (hr3 : Kd.C (Kd.int .i64) w A3 c.length c) (hc3 : c.length ≤ c3)
    (wR : (Lit.int .i64 R).wf = true) (wC : (Lit.int .i64 C).wf = true) (hl2 : r.length * 8 ≤ 140737488351232) (hl3 : c.length * 8 ≤ 140737488351232) :
    Calls Try.prog 4 #[.agg #[.int .i64 R, .int .i64 C, .slice A2 r.length c2, .slice A3 c.length c3]] w fun e w' => e = .returned (.bool true) ∧ Below w.heap.size w w' := by
  obtain ⟨ka, hka⟩ := Awake.rounds
  have H2 := Aside0.mk hr2
  have H3 := Aside0.mk hr3
  have HKA := Aside0.mk hka
  have hm : IntKind.i64.min = -9223372036854775808 := rfl
  have hRr : IntKind.i64.min ≤ R ∧ R ≤ 9223372036854775807 := by simpa [Lit.wf] using wR
  have hCr : IntKind.i64.min ≤ C ∧ C ≤ 9223372036854775807 := by simpa [Lit.wf] using wC
  rw [hm] at hRr hCr
  clear hm wR wC
  clear hr2 hr3 hka
  go_enter Try.func4, Try.ntmps4
  go_wp2_with fail
  refine (culletlaw10_awake.calls ka true _ HKA.out).mono ?_
  rintro e w1 ⟨rfl, hb⟩
  have hh := heap_alloc_new w (Obj.cells #[.int .i64 R, .int .i64 C, .slice A2 r.length c2, .slice A3 c.length c3] 30 (0, 0))
  have hh1 : w1.heap[w.heap.size]? = some (Obj.cells #[.int .i64 R, .int .i64 C, .slice A2 r.length c2, .slice A3 c.length c3] 30 (0, 0)) := by
    rw [← hh]; exact hb.block _ (by simp)
  have hc0 : w1.cell? ⟨w.heap.size, 0, none⟩ = some (.int .i64 R) := by rw [cell_of_row w1 _ _ _ 30 (0, 0) hh1]; rfl
  have hc1 : w1.cell? ⟨w.heap.size, 1, none⟩ = some (.int .i64 C) := by rw [cell_of_row w1 _ _ _ 30 (0, 0) hh1]; rfl
  have hc2' : w1.cell? ⟨w.heap.size, 2, none⟩ = some (.slice A2 r.length c2) := by rw [cell_of_row w1 _ _ _ 30 (0, 0) hh1]; rfl
  have hc3' : w1.cell? ⟨w.heap.size, 3, none⟩ = some (.slice A3 c.length c3) := by rw [cell_of_row w1 _ _ _ 30 (0, 0) hh1]; rfl
  have HB := Aside0.mk (((Below.refl w.heap.size w).alloc (Nat.le_refl _) (Obj.cells #[.int .i64 R, .int .i64 C, .slice A2 r.length c2, .slice A3 c.length c3] 30 (0, 0))).trans (hb.mono (by simp)))
  clear hb hh hh1
  go_wp2_with fail
  go_quiet (fail)
  clear hc0 hc1 hc2' hc3'
  by_cases hG : cauOk R C r c
  · unfold cauOk at hG
    obtain ⟨g1, g2, g3, g4, g5, g6, g7, g8⟩ := hG
    obtain ⟨R, rfl⟩ := Int.eq_ofNat_of_zero_le (show 0 ≤ R by omega)
    obtain ⟨C, rfl⟩ := Int.eq_ofNat_of_zero_le (show 0 ≤ C by omega)
    obtain ⟨kc, hkc⟩ := (Cauchy_mat (r := R) (c := C) (by omega) (by omega) (by omega)).rounds
    have HKC := Aside0.mk hkc
    have hne : ((r.length : Int) != (c.length : Int)) = false := bne_eq_false_iff_eq.2 (by omega)
    have HL := Aside0.mk g6
    have g9 : c.length ≤ 16 := by omega
    have g10 : 1 ≤ c.length := by omega
    clear hkc g6
    go_wp2_with fail
    refine (matrix_Cauchy.calls kc _ _ _ _ _ HKC.out).mono ?_
    rintro e w2 ⟨v7, rfl, hS, hb2⟩
    obtain ⟨Am, cm, e7⟩ := Kd.S_slice hS
    have hCm := (Kd.S_reads' (e7 ▸ hS)).2.2
    rw [mat_len] at e7
    subst e7
    obtain ⟨M, hMd⟩ : ∃ M : Nat → Nat → G8, M = fun i j => ⟨cau C i j, cau_lt C i j⟩ := ⟨_, rfl⟩
    have hCm' : (Kd.slice 5 (Kd.int .u8)).C w2 Am (mt R C M).length (mt R C M) := by rw [hMd]; exact hCm
    obtain ⟨md, rfl, hRd⟩ := rdm_of_C (by omega) (by omega) hCm'
    have HM := Aside0.mk hMd
    have B2 := Aside0.mk ((pw_below_drewN HB.out nq).trans (hb2.mono (pw_below_drewN HB.out nq).size))
    have RD := Aside0.mk hRd
    clear hS hCm hCm' hb2 hRd hMd HB HKC
    obtain ⟨rd, rfl, hl2⟩ := int_get H2.out (by omega)
    obtain ⟨cd, rfl, hl3⟩ := int_get H3.out (by omega)
    have L2 := Aside0.mk hl2
    have L3 := Aside0.mk hl3
    have hbm : ((R : Int) != (R : Int)) = false := bne_self_eq_false _
    have hmk := run_make_row' (P := Try.prog) 22 31 (.slice none 0 0) 24 Try.underlying22 info31' rfl .i64 .i64 r.length (by omega) (by omega)
    clear hl2 hl3 hne
    go_wp2
    have h0 := World.rowIs_made w2 (.slice none 0 0) r.length 31
    have hb0 : Below w.heap.size w2 (w2.alloc (.cells (madeCells #[Value.slice none 0 0] r.length) 31)) := (Below.refl _ _).alloc B2.out.size _
    have hgs := B2.out.size
    obtain ⟨g, hg⟩ : ∃ g, g = w2.heap.size := ⟨_, rfl⟩
    have RDg : Aside0 (∀ W', Below g w2 W' → RdM W' md R C M) := ⟨fun W' h => RD.out.below (hg ▸ h)⟩
    have hgs' : w.heap.size ≤ g := by rw [hg]; exact hgs
    have BG3 : Aside0 (Below g w2 (w2.alloc (.cells (madeCells #[Value.slice none 0 0] r.length) 31))) := ⟨(by rw [hg]; exact (Below.refl w2.heap.size w2).alloc (Nat.le_refl _) _)⟩
    have R0 : Aside0 (∀ wd b V, Rag (w2.alloc (.cells (madeCells #[Value.slice none 0 0] r.length) 31)) 31 5 g g r.length 0 .u8 wd b V) :=
      ⟨fun wd b V => ⟨by rw [hg]; exact h0.congr (fun i _ => by rw [if_neg (by omega)]), fun i hi => by omega, fun i j hi => by omega, Nat.le_refl _, fun i hi => by omega, by decide⟩⟩
    have B3 := Aside0.mk (B2.out.trans hb0)
    rw [← hg]
    clear h0 hb0 hgs hg hmk B2 RD
    generalize w2.alloc (.cells (madeCells #[Value.slice none 0 0] r.length) 31) = W3 at BG3 R0 B3 ⊢
    go_loopg [12] r.length (fun kq v12 wr => ∃ k, kq = r.length - k ∧ k ≤ r.length ∧ v12 = .int .i64 (k : Int) ∧ wr = W3 ∧ Aside0 (∀ i, i < k → 0 ≤ r.getD i 0 ∧ r.getD i 0 < (R : Int) ∧ 0 ≤ c.getD i 0 ∧ c.getD i 0 < (C : Int)))
    case atStart => exact ⟨0, rfl, Nat.zero_le _, rfl, rfl, ⟨fun i hi => by omega⟩⟩
    case round =>
      obtain ⟨k, rfl, hk, rfl, rfl, HP⟩ := hrel
      by_cases hlt : k < r.length
      · have hltc : k < c.length := by have := HL.out; omega
        have q2 := pw_cell_below B3.out (L2.out k hlt)
        have q3 := pw_cell_below B3.out (L3.out k hltc)
        obtain ⟨rv, hrv⟩ : ∃ v, v = r.getD k 0 := ⟨_, rfl⟩
        obtain ⟨cv, hcv⟩ : ∃ v, v = c.getD k 0 := ⟨_, rfl⟩
        rw [← hrv] at q2
        rw [← hcv] at q3
        have HV := Aside0.mk hrv
        have HW := Aside0.mk hcv
        clear hrv hcv
        by_cases hin : 0 ≤ rv ∧ rv < (R : Int) ∧ 0 ≤ cv ∧ cv < (C : Int)
        · obtain ⟨i1, i2, i3, i4⟩ := hin
          go_wp2
          go_roundg (r.length - (k + 1))
          case measure => omega
          case rel => exact ⟨k + 1, rfl, by omega, by go_num, rfl, ⟨fun i hi => by
            by_cases e : i = k
            · subst e; rw [← HV.out, ← HW.out]; exact ⟨i1, i2, i3, i4⟩
            · exact HP.out i (by omega)⟩⟩
        · have HN := Aside0.mk hin
          clear hin
          go_wp2_with fail
          all_goals first
            | (go_ret; exact ⟨rfl, B3.out⟩)
            | (exfalso; apply HN.out; refine ⟨?_, ?_, ?_, ?_⟩ <;> omega)
      · have hkn : k = r.length := by omega
        subst hkn
        have HP' : Aside0 (∀ i, i < r.length → ∃ (a b : Nat), r.getD i 0 = (a : Int) ∧ a < R ∧ c.getD i 0 = (b : Int) ∧ b < C) := ⟨fun i hi => by
          obtain ⟨i1, i2, i3, i4⟩ := HP.out i hi
          exact ⟨(r.getD i 0).toNat, (c.getD i 0).toNat, by omega, by omega, by omega, by omega⟩⟩
        obtain ⟨X, hX⟩ : ∃ X : Nat → G8, X = fun i => t8 (C + (r.getD i 0).toNat) := ⟨_, rfl⟩
        obtain ⟨Y, hY⟩ : ∃ Y : Nat → G8, Y = fun j => t8 (c.getD j 0).toNat := ⟨_, rfl⟩
        have HX : Aside0 (∀ i a : Nat, r.getD i 0 = (a : Int) → a < R → (X i).v = C + a) := ⟨fun i a h1 h2 => by
          rw [hX]; show (t8 (C + (r.getD i 0).toNat)).v = _
          rw [h1, Int.toNat_natCast, t8_val (by omega)]⟩
        have HY : Aside0 (∀ i a : Nat, c.getD i 0 = (a : Int) → a < C → (Y i).v = a) := ⟨fun i a h1 h2 => by
          rw [hY]; show (t8 (c.getD i 0).toNat).v = _
          rw [h1, Int.toNat_natCast, t8_val (by omega)]⟩
        clear hX hY HP hlt hk
        go_wp2
        go_loopg [9, 10, 13, 14] r.length (fun kq v9 v10 v13 v14 wr => ∃ k b, kq = r.length - k ∧ k ≤ r.length ∧ v9 = .int .u8 (((cU X Y k 0).v : Nat) : Int) ∧ v10 = .int .u8 (((cD X Y r.length k 0).v : Nat) : Int) ∧ v13 = .int .i64 (k : Int) ∧ Rag wr 31 5 g g r.length k .u8 (fun _ => r.length) b (cV X Y k 0) ∧ Below g w2 wr ∧ Below w.heap.size w wr)
        case atStart => exact ⟨0, fun _ => 0, rfl, Nat.zero_le _, by rw [cU_zero]; rfl, by rw [cD_zero]; rfl, rfl, R0.out _ _ _, BG3.out, B3.out⟩
        case round =>
          obtain ⟨k, b, rfl, hk, rfl, rfl, rfl, hR, hBg, hB⟩ := hrel
          have R1 := Aside0.mk hR
          have G1 := Aside0.mk hBg
          have B1 := Aside0.mk hB
          clear hR hBg hB R0 BG3 B3
          by_cases hlt : k < r.length
          · have hmk2 := run_make_row' (P := Try.prog) 31 5 (.int .u8 0) 1 Try.underlying31 info5' rfl .i64 .i64 r.length (by omega) (by omega)
            have hd1 := R1.out.hd.cell hlt
            rw [if_neg (Nat.lt_irrefl k)] at hd1
            have hf1 := R1.out.hd.frozen k
            have hz1 := R1.out.hd.lt
            have R2 := Aside0.mk (R1.out.step hlt r.length (.int .u8 0) rfl)
            have B2 := Aside0.mk ((B1.out.setCell (p := ⟨g, k, none⟩) hgs' (.slice (some ⟨wr.heap.size, 0, none⟩) r.length r.length)).alloc (by simpa using B1.out.size) (.cells (madeCells #[.int .u8 0] r.length) 5))
            have G2 := Aside0.mk ((G1.out.setCell (p := ⟨g, k, none⟩) (Nat.le_refl _) (.slice (some ⟨wr.heap.size, 0, none⟩) r.length r.length)).alloc (by simpa using Nat.le_of_lt hz1) (.cells (madeCells #[.int .u8 0] r.length) 5))
            go_wp2
            clear hd1 hf1 hz1 hmk2
            obtain ⟨B, hBB⟩ : ∃ B, B = wr.heap.size := ⟨_, rfl⟩
            rw [← hBB] at R2 B2 G2 ⊢
            clear hBB R1 B1 G1
            generalize (wr.setCell ⟨g, k, none⟩ (.slice (some ⟨B, 0, none⟩) r.length r.length)).alloc (.cells (madeCells #[.int .u8 0] r.length) 5) = W1 at R2 B2 G2 ⊢
            obtain ⟨b1, hb1⟩ : ∃ b1 : Nat → Nat, b1 = (fun i => if i = k then B else b i) := ⟨_, rfl⟩
            have R3 : Aside0 (Rag W1 31 5 g g r.length (k + 1) .u8 (fun _ => r.length) b1 (cV X Y k 0)) := ⟨R2.out.congr (fun i hi => by by_cases e : i = k; (· rw [if_pos e]); (· rw [if_neg e])) (fun i hi => by rw [hb1]) (fun i j hi hj => by
              by_cases e : i = k
              · rw [if_pos e]; unfold cV; rw [if_neg (by omega)]
              · rw [if_neg e])⟩
            clear R2 hb1
            go_loopg [9, 10, 14] r.length (fun kq v9 v10 v14 wr => ∃ j, kq = r.length - j ∧ j ≤ r.length ∧ v9 = .int .u8 (((cU X Y k j).v : Nat) : Int) ∧ v10 = .int .u8 (((cD X Y r.length k j).v : Nat) : Int) ∧ v14 = .int .i64 (j : Int) ∧ Rag wr 31 5 g g r.length (k + 1) .u8 (fun _ => r.length) b1 (cV X Y k j) ∧ Below g w2 wr ∧ Below w.heap.size w wr)
            case atStart => exact ⟨0, rfl, Nat.zero_le _, rfl, rfl, rfl, R3.out, G2.out, B2.out⟩
            case round =>
              obtain ⟨j, rfl, hjn, rfl, rfl, rfl, hR, hBg, hB⟩ := hrel
              have R4 := Aside0.mk hR
              have G4 := Aside0.mk hBg
              have B4 := Aside0.mk hB
              clear hR hBg hB R3 G2 B2
              by_cases hj : j < r.length
              · obtain ⟨rk, ck, e1, e2, e3, e4⟩ := HP'.out k hlt
                obtain ⟨rj, cj, e5, e6, e7, e8⟩ := HP'.out j hj
                have hkc : k < c.length := by have := HL.out; omega
                have hjc : j < c.length := by have := HL.out; omega
                have x1 := HX.out k rk e1 e2
                have x2 := HX.out j rj e5 e6
                have y1 := HY.out k ck e3 e4
                have y2 := HY.out j cj e7 e8
                have p1 : w.cell? (rd.add k) = some (.int .i64 (rk : Int)) := by rw [← e1]; exact L2.out k hlt
                have p2 : w.cell? (rd.add j) = some (.int .i64 (rj : Int)) := by rw [← e5]; exact L2.out j hj
                have p3 : w.cell? (cd.add k) = some (.int .i64 (ck : Int)) := by rw [← e3]; exact L3.out k hkc
                have p4 : w.cell? (cd.add j) = some (.int .i64 (cj : Int)) := by rw [← e7]; exact L3.out j hjc
                have P1 := Aside0.mk p1
                have P2 := Aside0.mk p2
                have P3 := Aside0.mk p3
                have P4 := Aside0.mk p4
                have hMv : (M rk cj).v = (LA.Fld.iv (X k + Y j)).v := by
                  rw [HM.out]; show cau C rk cj = i8 ((X k).v ^^^ (Y j).v)
                  rw [x1, y2]; unfold cau; rw [Nat.mod_eq_of_lt (show C + rk < 256 by omega), Nat.mod_eq_of_lt (show cj < 256 by omega)]
                have hx1 : Go.bits .xor .i64 ((C + rk : Nat) : Int) (cj : Int) = (((X k + Y j).v : Nat) : Int) := by
                  rw [bits_xori (by omega) (by omega)]; show _ = (((X k).v ^^^ (Y j).v : Nat) : Int); rw [x1, y2]
                have hx2 : Go.bits .xor .u8 ((C + rk : Nat) : Int) ((C + rj : Nat) : Int) = (((X k + X j).v : Nat) : Int) := by
                  rw [bits_xor8 (by omega) (by omega)]; show _ = (((X k).v ^^^ (X j).v : Nat) : Int); rw [x1, x2]
                have hx3 : Go.bits .xor .i64 (ck : Int) (cj : Int) = (((Y k + Y j).v : Nat) : Int) := by
                  rw [bits_xori (by omega) (by omega)]; show _ = (((Y k).v ^^^ (Y j).v : Nat) : Int); rw [y1, y2]
                obtain ⟨zk, hzk⟩ : ∃ zk, zk = C + rk := ⟨_, rfl⟩
                obtain ⟨zj, hzj⟩ : ∃ zj, zj = C + rj := ⟨_, rfl⟩
                have w1' : IntKind.i64.wrap ((C : Int) + (rk : Int)) = (zk : Int) := by rw [IntKind.wrap_i64]; omega
                have w2' : IntKind.i64.wrap ((rk : Int) + (C : Int)) = (zk : Int) := by rw [IntKind.wrap_i64]; omega
                have w3' : IntKind.i64.wrap ((rj : Int) + (C : Int)) = (zj : Int) := by rw [IntKind.wrap_i64]; omega
                have z1 : zk ≤ 255 := by omega
                have z2 : zj ≤ 255 := by omega
                rw [← hzk] at hx1 hx2
                rw [← hzj] at hx2
                have X1 := Aside0.mk hx1
                have X2 := Aside0.mk hx2
                have X3 := Aside0.mk hx3
                have W1' := Aside0.mk w1'
                have W2' := Aside0.mk w2'
                have W3' := Aside0.mk w3'
                have v1 : (((X k + Y j).v : Nat) : Int) ≤ 255 := by have := (X k + Y j).lt; omega
                have v2 : (((X k + X j).v : Nat) : Int) ≤ 255 := by have := (X k + X j).lt; omega
                have v3 : (((Y k + Y j).v : Nat) : Int) ≤ 255 := by have := (Y k + Y j).lt; omega
                clear e1 e3 e5 e7 x1 x2 y1 y2 p1 p2 p3 p4 hx1 hx2 hx3 hzk hzj w1' w2' w3'
                obtain ⟨f, cp, hf⟩ := RDg.out wr G4.out
                obtain ⟨s1, s2, s3⟩ := hf rk e2
                have s4 := s3 cj e8
                have p1 := pw_cell_below B4.out P1.out
                have p4 := pw_cell_below B4.out P4.out
                have hd1 := R4.out.hd.cell hlt
                rw [if_pos (Nat.lt_succ_self k)] at hd1
                have hd2 := (R4.out.row k (Nat.lt_succ_self k)).cell hj
                have hf2 := (R4.out.row k (Nat.lt_succ_self k)).frozen j
                have hcc : ((C : Int) != (C : Int)) = false := bne_self_eq_false _
                clear hf s3
                go_wp2
                go_still_tail 19, (by kernel_rfl)
                change wpList _ _ _ _ _ wr.drew
                go_wp2
                have hgk : g ≤ b1 k := R4.out.geb k (Nat.lt_succ_self k)
                have hbk : w.heap.size ≤ b1 k := Nat.le_trans hgs' hgk
                have R5 : Aside0 (Rag (wr.setCell ⟨b1 k, j, none⟩ (.int .u8 (((LA.Fld.iv (X k + Y j)).v : Nat) : Int))).drew 31 5 g g r.length (k + 1) .u8 (fun _ => r.length) b1 (cV X Y k (j + 1))) := ⟨by
                  have q := (rag_put R4.out (i := k) (j := j) (Nat.lt_succ_self k) (((LA.Fld.iv (X k + Y j)).v : Nat) : Int)).congr (wd' := fun _ => r.length) (b' := b1) (V' := cV X Y k (j + 1)) (fun _ _ => rfl) (fun _ _ => rfl) (fun a l ha hl => by
                    unfold cV
                    by_cases h : a = k ∧ l = j
                    · obtain ⟨rfl, rfl⟩ := h
                      rw [if_pos ⟨rfl, rfl⟩, if_pos (.inr ⟨rfl, by omega⟩)]
                    · rw [if_neg h]
                      have : (a < k ∨ a = k ∧ l < j) ↔ (a < k ∨ a = k ∧ l < j + 1) := by omega
                      simp only [this])
                  exact ⟨q.hd, q.row, q.inj, q.ge, q.geb, q.te⟩⟩
                have B5 := Aside0.mk (Below.drew (B4.out.setCell (p := ⟨b1 k, j, none⟩) hbk (.int .u8 (((LA.Fld.iv (X k + Y j)).v : Nat) : Int))))
                have G5 := Aside0.mk (Below.drew (G4.out.setCell (p := ⟨b1 k, j, none⟩) hgk (.int .u8 (((LA.Fld.iv (X k + Y j)).v : Nat) : Int))))
                generalize (wr.setCell ⟨b1 k, j, none⟩ (.int .u8 (((LA.Fld.iv (X k + Y j)).v : Nat) : Int))).drew = W5 at R5 B5 G5 ⊢
                clear hbk hgk p1 p4 hd1 hd2 hf2 hcc s1 s2 s4 hMv R4 G4 B4
                have p1 := pw_cell_below B5.out P1.out
                have p4 := pw_cell_below B5.out P4.out
                have w1' := W1'.out
                have hx1 := X1.out
                by_cases hjk : j < k
                · go_quiet ((go_at_call 17; exact quiet_drawn (mul8_g _ _ _)))
                  clear p1 p4 w1' hx1
                  have R6 : Aside0 (Rag (W5.drewN nq) 31 5 g g r.length (k + 1) .u8 (fun _ => r.length) b1 (cV X Y k (j + 1))) := ⟨rag_drawn R5.out⟩
                  have B6 := Aside0.mk (pw_below_drewN B5.out nq)
                  have G6 := Aside0.mk (pw_below_drewN G5.out nq)
                  generalize W5.drewN nq = W6 at R6 B6 G6 ⊢
                  clear R5 B5 G5
                  have p1 := pw_cell_below B6.out P1.out
                  have p2 := pw_cell_below B6.out P2.out
                  have p3 := pw_cell_below B6.out P3.out
                  have p4 := pw_cell_below B6.out P4.out
                  have w2' := W2'.out
                  have w3' := W3'.out
                  have hx2 := X2.out
                  have hx3 := X3.out
                  go_wp2
                  go_quiet ((go_at_call 17; exact quiet_drawn (mul8_g _ _ _)))
                  clear p1 p2 p3 p4 w2' w3' hx2 hx3
                  go_wp2
                  go_roundg (r.length - (j + 1))
                  case measure => omega
                  case rel => exact ⟨j + 1, rfl, by omega, by rw [← cU_step X Y hjk], by rw [← cD_step], by go_num, rag_drawn R6.out, pw_below_drewN G6.out _, pw_below_drewN B6.out _⟩
                · go_quiet ((go_at_call 17; exact quiet_drawn (mul8_g _ _ _)))
                  clear p1 p4 w1' hx1
                  go_wp2
                  go_roundg (r.length - (j + 1))
                  case measure => omega
                  case rel => exact ⟨j + 1, rfl, by omega, by rw [← cU_stay X Y hjk], by rw [← cD_step], by go_num, rag_drawn R5.out, pw_below_drewN G5.out _, pw_below_drewN B5.out _⟩
              · go_wp2
                go_roundg (r.length - (k + 1))
                case measure => omega
                case rel =>
                  have hjn' : j = r.length := by omega
                  subst hjn'
                  exact ⟨k + 1, b1, rfl, by omega, by rw [cU_next X Y r.length (by omega)], by rw [cD_next], by go_num, R4.out.congr (fun _ _ => rfl) (fun _ _ => rfl) (fun a l ha hl => by
                    unfold cV
                    have : (a < k ∨ a = k ∧ l < r.length) ↔ (a < k + 1 ∨ a = k + 1 ∧ l < 0) := by omega
                    simp only [this]), G4.out, B4.out⟩
          · have hkn : k = r.length := by omega
            subst hkn
            have hG : Grid wr 31 5 g g r.length r.length b (fun i j => LA.Fld.iv (X i + Y j)) :=
              ⟨R1.out.hd.congr (fun i hi => if_pos hi), fun i hi => (R1.out.row i hi).congr (fun j hj => by unfold cV; rw [if_pos (.inl hi)]), R1.out.inj, R1.out.ge, R1.out.geb, R1.out.te⟩
            have hS := hG.toS (by unfold maxLen; omega) (by unfold maxLen; omega) (ok := fun _ => True) trivial (fun _ _ => trivial)
            have hdet := Det_of (l := mt r.length r.length (fun i j => LA.Fld.iv (X i + Y j))) (chk_mt g7 (by omega) g7 (by omega)) byt_mt (by rw [mt_len, wid_mt g7])
            rw [mt_len, LA.det_congr (fun i j hi hj => toM_mt hi hj)] at hdet
            have hcall := matrix_Det.calls (some ⟨g, 0, none⟩) r.length (mt r.length r.length (fun i j => LA.Fld.iv (X i + Y j))) _ 0 wr (by
              have := (Kd.S_reads' hS).2.2
              exact this) (by rw [mt_len]; exact Nat.le_refl _) hdet
            rw [mt_len] at hcall
            have HC := Aside0.mk hcall
            have hend := cU_end X Y r.length (fun i j hi hj h0 => by
              obtain ⟨a, _, e1, e2, _, _⟩ := HP'.out i hi
              obtain ⟨_, b', _, _, e3, e4⟩ := HP'.out j hj
              have x1 := HX.out i a e1 e2
              have y1 := HY.out j b' e3 e4
              have : (X i).v ^^^ (Y j).v = 0 := congrArg G8.v h0
              have h2 : (X i).v = (Y j).v := by
                have h3 : (X i).v ^^^ (Y j).v ^^^ (Y j).v = 0 ^^^ (Y j).v := by rw [this]
                rwa [Nat.xor_assoc, Nat.xor_self, Nat.xor_zero, Nat.zero_xor] at h3
              omega)
            have HE := Aside0.mk hend
            clear hG hS hdet hcall hend
            go_wp2_with fail
            refine HC.out.mono ?_
            rintro e w9 ⟨rfl, hb9⟩
            have B9 := Aside0.mk (B1.out.trans (hb9.mono B1.out.size))
            clear hb9 HC
            obtain ⟨dt, hdt⟩ : ∃ dt, dt = LA.det r.length (fun i j => LA.Fld.iv (X i + Y j)) := ⟨_, rfl⟩
            rw [← hdt] at HE ⊢
            clear hdt
            have hbeq : ((((dt * cD X Y r.length r.length 0).v : Nat) : Int) == (((cU X Y r.length 0).v : Nat) : Int)) = true := by rw [HE.out]; exact beq_self_eq_true _
            go_wp2_with (go_at_call 17; refine (mul8_g _ _ _).mono ?_; rintro e w10 ⟨rfl, hD⟩; obtain ⟨nd, rfl⟩ := hD.out)
            go_ret
            exact ⟨rfl, pw_below_drewN B9.out _⟩
  · have HG := Aside0.mk hG
    clear hG
    go_wp2_with fail
    all_goals first
      | (go_ret; exact ⟨rfl, pw_below_drewN HB.out nq⟩)
      | (exfalso; apply HG.out; unfold cauOk; refine ⟨?_, ?_, ?_, ?_, ?_, ?_, ?_, ?_⟩ <;> omega)
      | skip
end Go.Proofs.Ytidogckochpbgaa.A
