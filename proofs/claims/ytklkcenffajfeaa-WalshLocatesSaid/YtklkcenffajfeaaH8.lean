import Derived.Test.YtklkcenffajfeaaRefW0
import Derived.Test.YtklkcenffajfeaaRowsI
namespace Go.Proofs.Ytklkcenffajfeaa.A
open Go.RowKit Go.Deep Go.Proofs.YtklkcenffajfeaaW.PrintWords Go.Proofs.YtklkcenffajfeaaW.PrintLast Go.Proofs.YtklkcenffajfeaaW.PrintMore Go.Proofs.Ytklkcenffajfeaa.F Go.Proofs.Ytklkcenffajfeaa.RI Go.Proofs.Ytklkcenffajfeaa.R WH
set_option linter.unusedVariables false
set_option linter.unusedSimpArgs false
theorem info3o : (Try.prog.info? 3).map (fun i => (i.zero, i.size, i.bytes)) = some (some (.int .i64 0), 1, 8) := by kernel_rfl
theorem modq (x : Int) (w : World) (n : Nat) : Calls Try.prog 45 #[.int .i64 x] (w.drewN n) fun e w' => e = .returned (.int .i64 (md x)) ∧ ∃ m, w' = w.drewN m :=
  quiet_drawnI (culletref15_mod.calls x _ _ (RefMod x))
/-- Ordered. -/
def culletref15_Ordered.f (l : List Int) : Option (List Int) := if pwB l.length = true then some (lst l.length (fun i => md (tr (Nat.log2 l.length) (vl l) i))) else none
set_option maxHeartbeats 4000000 in
set_option maxRecDepth 100000 in
theorem ordered_walk : ∀ (r : Nat), r ≤ 16 → ∀ (A0 : Option Addr) (c0 : Nat) (l0 : List Int) (w : World), l0.length = 2 ^ r → Kd.C (Kd.int .i64) w A0 l0.length l0 → l0.length ≤ c0 →
    Calls Try.prog 41 #[.slice A0 l0.length c0] w fun e w' => ∃ v : Value, e = .returned v ∧ Kd.R (Kd.int .i64) 3 w' w.heap.size (fun _ => True) v (lst (2 ^ r) (fun i => md (tr r (vl l0) i))) ∧ Below w.heap.size w w' := by
  intro r
  induction r with
  | zero =>
    intro _ A0 c0 l0 w hl hC hc0
    have hl1 : l0.length = 1 := hl
    obtain ⟨ad, rfl, hc⟩ := readI hC (by omega)
    have c1 := hc 0 (by omega)
    rw [Addr.add_zero'] at c1
    have HM := Aside0.mk (RefMod (l0.getD 0 0))
    obtain ⟨x, hx⟩ : ∃ x, x = l0.getD 0 0 := ⟨_, rfl⟩
    obtain ⟨y, hy⟩ : ∃ y, y = md x := ⟨_, rfl⟩
    rw [← hx] at c1 HM
    rw [← hy] at HM
    have e : lst (2 ^ 0) (fun i => md (tr 0 (vl l0) i)) = (List.range 1).map fun _ => y := by
      show [md (si 1 (fun j => sgn 0 0 j * vl l0 j))] = [y]
      rw [hy, hx]
      simp only [si, sgn, vl, Int.one_mul, Int.zero_add]
    rw [e, hl1]
    clear hx hy e hc hC hl hl1 hc0
    go_enter Try.func41, Try.ntmps41
    go_wp2_with (go_at_call 45; refine (culletref15_mod.calls _ _ _ HM.out).mono ?_; rintro e w' ⟨rfl, hD⟩; obtain ⟨nd, rfl⟩ := hD.out)
    go_ret
    exact ⟨_, rfl, rowR (oneRow (w.drewN nd) 3 (.int .i64 y)) (Nat.le_refl _) (by unfold maxLen; omega) trivial, (pw_below_drewN (Below.refl _ _) nd).alloc (Nat.le_refl _) _⟩
  | succ r ih =>
    intro hr A0 c0 l0 w hl hC hc0
    obtain ⟨m, hm⟩ : ∃ m, m = 2 ^ r := ⟨_, rfl⟩
    have hm15 : m ≤ 32768 := by rw [hm]; exact Nat.pow_le_pow_right (n := 2) (by decide) (show r ≤ 15 by omega)
    have hm0 : 0 < m := by rw [hm]; exact Nat.two_pow_pos r
    have hl2 : l0.length = m + m := by rw [hl, hm, Nat.pow_succ]; omega
    have ea : ∀ i, i < m → vl (l0.take m) i = vl l0 i := fun i hi => by
      unfold vl; rw [List.getD_eq_getElem?_getD, List.getD_eq_getElem?_getD, List.getElem?_take, if_pos hi]
    have eb : ∀ i, vl (l0.drop m) i = vl l0 (m + i) := fun i => by
      unfold vl; rw [List.getD_eq_getElem?_getD, List.getD_eq_getElem?_getD, List.getElem?_drop]
    obtain ⟨f, hf⟩ : ∃ f : Nat → Int, f = fun i => md (tr r (vl (l0.take m)) i) := ⟨_, rfl⟩
    obtain ⟨g, hg⟩ : ∃ g : Nat → Int, g = fun i => md (tr r (vl (l0.drop m)) i) := ⟨_, rfl⟩
    obtain ⟨t, ht⟩ : ∃ t : Nat → Int, t = fun i => md (tr (r + 1) (vl l0) i) := ⟨_, rfl⟩
    have fb : ∀ i, 0 ≤ f i ∧ f i < 65535 := fun i => by rw [hf]; exact ⟨md_ge _, md_lt _⟩
    have gb : ∀ i, 0 ≤ g i ∧ g i < 65535 := fun i => by rw [hg]; exact ⟨md_ge _, md_lt _⟩
    have lo : ∀ i, i < m → md (f i + g i) = t i := fun i hi => by
      rw [ht, hf, hg]
      show md (md _ + md _) = md _
      rw [hm] at hi ea eb ⊢
      rw [WH.tr_low hi, md_add, tr_congr ea, tr_congr (fun k _ => eb k)]
    have hi' : ∀ i, i < m → md (f i - g i) = t (m + i) := fun i hi => by
      rw [ht, hf, hg]
      show md (md _ - md _) = md _
      rw [hm] at hi ea eb ⊢
      rw [WH.tr_high hi, md_sub, tr_congr ea, tr_congr (fun k _ => eb k)]
    have h1 : (l0.take m).length = m := by rw [List.length_take]; omega
    have h2 : (l0.drop m).length = m := by rw [List.length_drop]; omega
    have hcd : m ≤ c0 - m := by omega
    have C1 := Kd.C_take hC (m := m) (by omega)
    obtain ⟨AD, hAD⟩ : ∃ AD, AD = (if c0 = m then A0 else A0.map (·.add (m * 1))) := ⟨_, rfl⟩
    have C2 : Kd.C (Kd.int .i64) w AD (l0.drop m).length (l0.drop m) := by rw [hAD]; exact Kd.C_drop hC (m := m) (c := c0) (by omega) hc0
    have i1 := ih (by omega) A0 c0 (l0.take m) w (by rw [h1, hm]) C1 (by omega)
    have i2 := fun w' => ih (by omega) AD (c0 - m) (l0.drop m) w' (by rw [h2, hm])
    rw [← hf, ← hm, h1] at i1
    rw [← hg, ← hm, h2] at i2
    rw [h2] at C2
    rw [← ht, ← hl, hl2]
    have FB := Aside0.mk fb
    have GB := Aside0.mk gb
    have LO := Aside0.mk lo
    have HI := Aside0.mk hi'
    have C2' := Aside0.mk C2
    have I1 := Aside0.mk i1
    have I2 := Aside0.mk i2
    obtain ⟨i0, hi0, hz0, hz1, hz2⟩ := info_parts info3o
    obtain ⟨n, hn⟩ : ∃ n, n = m + m := ⟨_, rfl⟩
    have hcut1 := cut_to (P := Try.prog) 35 3 .i64 Try.underlying35 hi0 A0 n c0 (m : Int) (by omega) (by omega) (by omega)
    have hcut2 := cut_from (P := Try.prog) 35 3 .i64 Try.underlying35 hi0 1 hz1 A0 n c0 (m : Int) (by omega) (by omega)
    rw [Int.toNat_natCast] at hcut1 hcut2
    have hmk := run_make_row' (P := Try.prog) 35 3 (.int .i64 0) 8 Try.underlying35 info3o rfl .i64 .i64 n (by omega) (by omega)
    have hdiv : (n : Int) / 2 = (m : Int) := by omega
    have hn1 : ((n : Int) == 1) = false := beq_eq_false_iff_ne.2 (by omega)
    have hnm : n - m = m := by omega
    rw [hnm, ← hAD] at hcut2
    rw [← hn]
    have HN := Aside0.mk hn
    have HC0 := Aside0.mk hc0
    clear i1 i2 C1 C2 fb gb lo hi' hf hg ht ea eb h1 h2 hC hl hl2 hc0 hm ih hz0 hz2 hn hnm hAD
    have hn6 : n ≤ 65536 := by have := HN.out; omega
    go_enter Try.func41, Try.ntmps41
    go_wp2_with fail
    refine I1.out.mono ?_
    rintro e w1 ⟨v4, rfl, hR4, hB1⟩
    obtain ⟨A4, cp4, rfl, hcp4, hC4⟩ := Kd.R_reads hR4
    rw [lst_len] at hcp4
    obtain ⟨a4, rfl, hc4⟩ := readI hC4 (by rw [lst_len]; exact hm0)
    rw [lst_len] at hc4
    rw [lst_len]
    have i2 := I2.out w1 (Kd.C_below C2'.out hB1) hcd
    have I3 := Aside0.mk i2
    have B1 := Aside0.mk hB1
    have HC4 := Aside0.mk hc4
    clear hR4 hB1 hC4 hc4 i2 I1 I2
    go_wp2_with fail
    refine I3.out.mono ?_
    rintro e w2 ⟨v5, rfl, hR5, hB2⟩
    obtain ⟨A5, cp5, rfl, hcp5, hC5⟩ := Kd.R_reads hR5
    rw [lst_len] at hcp5
    obtain ⟨a5, rfl, hc5⟩ := readI hC5 (by rw [lst_len]; exact hm0)
    rw [lst_len] at hc5
    rw [lst_len]
    have hd4 : ∀ j, j < m → w2.cell? (a4.add j) = some (.int .i64 (f j)) := fun j hj => by rw [pw_cell_below hB2 (HC4.out j hj), lst_getD hj]
    have hd5 : ∀ j, j < m → w2.cell? (a5.add j) = some (.int .i64 (g j)) := fun j hj => by rw [hc5 j hj, lst_getD hj]
    have B2 := Aside0.mk (B1.out.trans (hB2.mono B1.out.size))
    have D4 := Aside0.mk hd4
    have D5 := Aside0.mk hd5
    clear hR5 hB2 hC5 hc5 I3 B1 HC4 hd4 hd5
    obtain ⟨gw, hgw⟩ : ∃ gw, gw = w2.heap.size := ⟨_, rfl⟩
    have HGW := Aside0.mk hgw
    have r0 := World.rowIs_made w2 (.int .i64 0) n 3
    rw [← hgw] at r0
    have R0 := Aside0.mk r0
    have B3 : Aside0 (Below w.heap.size w (w2.alloc (.cells (madeCells #[.int .i64 0] n) 3))) := ⟨B2.out.alloc B2.out.size _⟩
    have K3 : Aside0 (Kept w2 (w2.alloc (.cells (madeCells #[.int .i64 0] n) 3)) (fun k => k = gw)) := ⟨(Kept.refl _ _).alloc _⟩
    clear hgw r0
    go_wp2_with fail
    rw [← HGW.out]
    clear hmk hcut1 hcut2
    generalize w2.alloc (.cells (madeCells #[.int .i64 0] n) 3) = W3 at R0 B3 K3 ⊢
    go_loopg [7, 31] m (fun kq v7 v31 wr => ∃ i : Nat, kq = m - i ∧ i ≤ m ∧ v31 = .int .i64 (i : Int) ∧ wr.rowIs gw 3 n (fun j => .int .i64 (if j < i ∨ m ≤ j ∧ j < m + i then t j else 0)) ∧ Kept w2 wr (fun k => k = gw) ∧ Below w.heap.size w wr)
    case atStart => exact ⟨0, rfl, Nat.zero_le _, rfl, R0.out.congr (fun j _ => by rw [if_neg (by omega)]), K3.out, B3.out⟩
    case round =>
      obtain ⟨i, rfl, hi, rfl, hR, hK, hB⟩ := hrel
      clear R0 K3 B3
      have R1 := Aside0.mk hR
      have K1 := Aside0.mk hK
      have B4 := Aside0.mk hB
      clear hR hK hB
      by_cases hlt : i < m
      · have q4 : w2.cell? (a4.add i) = some (.int .i64 (f i)) := D4.out i hlt
        have q5 : w2.cell? (a5.add i) = some (.int .i64 (g i)) := D5.out i hlt
        have l4 := World.block_lt_of_cell? w2 _ q4
        have l5 := World.block_lt_of_cell? w2 _ q5
        have c4 : wr.cell? (a4.add i) = some (.int .i64 (f i)) := cell_kept q4 K1.out (by have := HGW.out; show ¬ (a4.add i).block = gw; omega)
        have c5 : wr.cell? (a5.add i) = some (.int .i64 (g i)) := cell_kept q5 K1.out (by have := HGW.out; show ¬ (a5.add i).block = gw; omega)
        have L4 := Aside0.mk l4
        have L5 := Aside0.mk l5
        obtain ⟨f1, f2⟩ := FB.out i
        obtain ⟨g1, g2⟩ := GB.out i
        have hl := LO.out i hlt
        have hh := HI.out i hlt
        obtain ⟨x, hx⟩ : ∃ x, x = f i := ⟨_, rfl⟩
        obtain ⟨y, hy⟩ : ∃ y, y = g i := ⟨_, rfl⟩
        rw [← hx] at c4 q4 f1 f2 hl hh
        rw [← hy] at c5 q5 g1 g2 hl hh
        have in' : i < n := by have := HN.out; omega
        have mn' : m + i < n := by have := HN.out; omega
        have cw := R1.out.cell in'
        have fw := R1.out.frozen i
        rw [if_neg (by omega)] at cw
        have s1 : IntKind.i64.wrap (x + y) = x + y := IntWalk.i64_in _ (by omega)
        have s2 : IntKind.i64.wrap (x - y) = x - y := IntWalk.i64_in _ (by omega)
        have b0 : (0 : Int) ≤ (i : Int) := by omega
        have b1 : (i : Int) < (m : Int) := by omega
        have b2 : (i : Int) < (n : Int) := by omega
        have b3 := True.intro
        have b4 := True.intro
        have HL := Aside0.mk hl
        have HH := Aside0.mk hh
        clear hx hy hl hh l4 l5 in'
        go_wp2_with fail
        refine wp_region_quiet_tail 13 (by kernel_rfl) (by kernel_rfl) ?_
        simp only [List.take_succ_cons, List.take_zero, List.drop_succ_cons, List.drop_zero]
        repeat (quiet_step ((go_at_call 45; exact modq _ _ _)))
        refine wpQuiet_nil ?_
        intro wq hq
        obtain ⟨nq, rfl⟩ := hq
        go_wp2_with fail
        rw [HL.out]
        have R2 := Aside0.mk ((R1.out.of_block (w' := wr.drewN nq) rfl).set i (.int .i64 (t i)))
        have K2 := Aside0.mk ((K1.out.drewN nq).setCell (p := ⟨gw, i, none⟩) (.inl rfl) (.int .i64 (t i)))
        have B5 := Aside0.mk ((pw_below_drewN B4.out nq).setCell (p := ⟨gw, i, none⟩) (by have := HGW.out; have := B2.out.size; show w.heap.size ≤ gw; omega) (.int .i64 (t i)))
        clear R1 K1 B4 c4 c5 cw fw s1
        generalize (wr.drewN nq).setCell ⟨gw, i, none⟩ (.int .i64 (t i)) = W5 at R2 K2 B5 ⊢
        obtain ⟨q, hq⟩ : ∃ q, q = m + i := ⟨_, rfl⟩
        rw [← hq] at mn'
        have cw2 := R2.out.cell mn'
        have fw2 := R2.out.frozen q
        rw [if_neg (show ¬ q = i by omega), if_neg (by omega)] at cw2
        have s3 : IntKind.i64.wrap ((m : Int) + (i : Int)) = (q : Int) := by rw [hq, IntWalk.i64_in _ (by omega)]; omega
        have s5 : Int.tdiv (n : Int) 2 = (m : Int) := by rw [Int.tdiv_eq_ediv_of_nonneg (by omega)]; exact hdiv
        have s6 : IntKind.i64.wrap (m : Int) = (m : Int) := IntWalk.i64_in _ (by omega)
        have b5 : (0 : Int) ≤ (q : Int) := by omega
        have b6 : (q : Int) < (n : Int) := by omega
        have HQ := Aside0.mk hq
        rw [← hq] at HH
        clear hq b3 b4
        have c4 : W5.cell? (a4.add i) = some (.int .i64 x) := cell_kept q4 K2.out (by have := HGW.out; have := L4.out; show ¬ (a4.add i).block = gw; omega)
        have c5 : W5.cell? (a5.add i) = some (.int .i64 y) := cell_kept q5 K2.out (by have := HGW.out; have := L5.out; show ¬ (a5.add i).block = gw; omega)
        refine wp_region_quiet_tail 16 (by kernel_rfl) (by kernel_rfl) ?_
        simp only [List.take_succ_cons, List.take_zero, List.drop_succ_cons, List.drop_zero]
        repeat (quiet_step ((go_at_call 45; exact modq _ _ _)))
        refine wpQuiet_nil ?_
        intro wq hq
        obtain ⟨nq2, rfl⟩ := hq
        go_wp2_with fail
        rw [HH.out]
        have R3 := Aside0.mk (((R2.out.of_block (w' := W5.drewN nq2) rfl).set q (.int .i64 (t q))).congr (g := fun j => .int .i64 (if j < i + 1 ∨ m ≤ j ∧ j < m + (i + 1) then t j else 0)) (fun j hj => by
          have hq := HQ.out
          by_cases e1 : j = q
          · subst e1; rw [if_pos rfl, if_pos (by omega)]
          · rw [if_neg e1]
            by_cases e2 : j = i
            · subst e2; rw [if_pos rfl, if_pos (by omega)]
            · rw [if_neg e2]
              have : (j < i ∨ m ≤ j ∧ j < m + i) ↔ (j < i + 1 ∨ m ≤ j ∧ j < m + (i + 1)) := by omega
              simp only [this]))
        have K3 := Aside0.mk ((K2.out.drewN nq2).setCell (p := ⟨gw, q, none⟩) (.inl rfl) (.int .i64 (t q)))
        have B6 := Aside0.mk ((pw_below_drewN B5.out nq2).setCell (p := ⟨gw, q, none⟩) (by have := HGW.out; have := B2.out.size; show w.heap.size ≤ gw; omega) (.int .i64 (t q)))
        clear R2 K2 B5 c4 c5 cw2 fw2 q4 q5
        go_wp2_with fail
        go_roundg (m - (i + 1))
        case measure => omega
        case rel => exact ⟨i + 1, rfl, by omega, by go_num, R3.out, K3.out, B6.out⟩
      · have hkk : i = m := by omega
        subst hkk
        have R3 := Aside0.mk (R1.out.congr (g := fun j => .int .i64 (t j)) (fun j hj => by rw [if_pos (by have := HN.out; omega)]))
        clear R1
        go_wp2_with fail
        go_ret
        exact ⟨_, rfl, rowR R3.out (by have := HGW.out; have := B2.out.size; omega) (by unfold maxLen; omega) trivial, B4.out⟩
theorem culletref15_Ordered.calls (A0 : Option Addr) (c0 : Nat) (l0 : List Int) (r : List Int) (w : World) (hr0 : Kd.C (Kd.int .i64) w A0 l0.length l0) (hc0 : l0.length ≤ c0) (h : culletref15_Ordered.f l0 = some r) :
    Calls Try.prog 41 #[.slice A0 l0.length c0] w fun e w' => ∃ v0_ : Value, e = .returned (v0_) ∧ Kd.R (Kd.int .i64) 3 w' w.heap.size (fun _ => True) v0_ r ∧ Below w.heap.size w w' := by
  unfold culletref15_Ordered.f at h
  by_cases hp : pwB l0.length = true
  · rw [if_pos hp] at h
    obtain rfl := Option.some.inj h
    obtain ⟨hn, hmax⟩ := pw_log hp
    have hr16 : Nat.log2 l0.length ≤ 16 := by
      have : 2 ^ Nat.log2 l0.length ≤ 2 ^ 16 := by rw [← hn]; exact hmax
      exact (Nat.pow_le_pow_iff_right (by decide)).1 this
    have := ordered_walk _ hr16 A0 c0 l0 w hn hr0 hc0
    rwa [← hn] at this
  · rw [if_neg hp] at h; exact absurd h (by simp)
end Go.Proofs.Ytklkcenffajfeaa.A
