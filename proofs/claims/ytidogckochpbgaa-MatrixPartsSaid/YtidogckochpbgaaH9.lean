import Derived.Test.YtidogckochpbgaaH8
namespace Go.Proofs.Ytidogckochpbgaa.A
open Go.RowKit Go.Deep Go.Proofs.YtidogckochpbgaaW.PrintWords Go.Proofs.YtidogckochpbgaaW.PrintLast Go.Proofs.YtidogckochpbgaaW.PrintMore Go.Proofs.Ytidogckochpbgaa.R
set_option linter.unusedVariables false
set_option linter.unusedSimpArgs false
/-- Augment. -/
def matrix_Augment.f (a b : List (List Int)) : Option (List (List Int) × Int) :=
  if chk a = true ∧ chk b = true then (if a.length = b.length ∧ wid a + wid b ≤ 512 then (if byt a = true ∧ byt b = true then some (mt a.length (wid a + wid b) (beside8 (wid a) (toM a) (toM b)), 0) else none) else some ([], 101)) else some ([], 100)
set_option maxHeartbeats 4000000 in
set_option maxRecDepth 100000 in
theorem matrix_Augment.calls (A0 : Option Addr) (c0 : Nat) (l0 : List (List Int)) (A1 : Option Addr) (c1 : Nat) (l1 : List (List Int)) (r1 : List (List Int)) (r2 : Int) (w : World) (hr0 : Kd.C (Kd.slice 5 (Kd.int .u8)) w A0 l0.length l0) (hc0 : l0.length ≤ c0) (hr1 : Kd.C (Kd.slice 5 (Kd.int .u8)) w A1 l1.length l1) (hc1 : l1.length ≤ c1) (h : matrix_Augment.f l0 l1 = some (r1, r2)) :
    Calls Try.prog 54 #[.slice A0 l0.length c0, .slice A1 l1.length c1] w fun e w' => ∃ v0_ : Value, e = .returned (.tuple #[v0_, .int .i64 r2]) ∧ Kd.S (Kd.slice 5 (Kd.int .u8)) 31 w' w.heap.size (fun _ => True) v0_ r1 ∧ Below w.heap.size w w' := by
  obtain ⟨k0, hk0⟩ := (Check_any l0).rounds
  obtain ⟨k1, hk1⟩ := (Check_any l1).rounds
  unfold matrix_Augment.f at h
  have H0 := Aside0.mk hr0
  have H1 := Aside0.mk hr1
  clear hr0 hr1
  by_cases hc : chk l0 = true
  · rw [if_pos hc] at hk0
    have HK0 := Aside0.mk hk0
    clear hk0
    by_cases hcb : chk l1 = true
    · rw [if_pos hcb] at hk1
      rw [if_pos ⟨hc, hcb⟩] at h
      have HK1 := Aside0.mk hk1
      clear hk1
      obtain ⟨am1, am2, aw1, aw2, -⟩ := chk_iff.1 hc
      obtain ⟨bm1, bm2, bw1, bw2, -⟩ := chk_iff.1 hcb
      obtain ⟨ad, rfl, fa, ca, hda⟩ : ∃ ad, A0 = some ad ∧ ∃ (f : Addr) (cp : Nat), w.cell? ad = some (.slice (some f) (wid l0) cp) := first_row am1 aw1 H0.out
      obtain ⟨bd, rfl, fb, cb, hdb⟩ : ∃ ad, A1 = some ad ∧ ∃ (f : Addr) (cp : Nat), w.cell? ad = some (.slice (some f) (wid l1) cp) := first_row bm1 bw1 H1.out
      have am1' : 0 < l0.length := am1
      have bm1' : 0 < l1.length := bm1
      obtain ⟨s, hs⟩ : ∃ s, s = wid l0 + wid l1 := ⟨_, rfl⟩
      have hsum : IntKind.i64.wrap ((wid l0 : Int) + (wid l1 : Int)) = (s : Int) := by rw [IntKind.wrap_i64]; omega
      by_cases hd : l0.length = l1.length ∧ wid l0 + wid l1 ≤ 512
      · rw [if_pos hd] at h
        by_cases hb : byt l0 = true ∧ byt l1 = true
        · rw [if_pos hb] at h
          have q0 := H0.out
          have q1 := H1.out
          rw [toM_eq hc hb.1] at q0
          rw [toM_eq hcb hb.2] at q1
          obtain ⟨ad', e', hR0⟩ := rdm_of_C (by omega) (by omega) q0
          obtain ⟨bd', e'', hR1⟩ := rdm_of_C (by omega) (by omega) q1
          obtain rfl := Option.some.inj e'
          obtain rfl := Option.some.inj e''
          have HR0 := Aside0.mk hR0
          have HR1 := Aside0.mk hR1
          clear q0 q1 e' e'' hR0 hR1
          have hd1 := hd.1
          have hd2 := hd.2
          have hs512 : ¬ (512 : Int) < (s : Int) := by omega
          have hs512' : decide ((512 : Int) < (s : Int)) = false := decide_eq_false hs512
          have e1 : ((l0.length : Int) != (l1.length : Int)) = false := bne_eq_false_iff_eq.2 (by omega)
          have HD := Aside0.mk hd1
          have HS := Aside0.mk hs
          have he := Aside0.mk h
          have FA := Aside0.mk hda
          clear h hc hcb hd hb hd1 hs
          go_enter Try.func54, Try.ntmps54
          go_wp2_with fail
          refine (matrix_Check.calls k0 _ c0 l0 _ _ H0.out hc0 HK0.out).mono ?_
          rintro e w1 ⟨rfl, hD⟩
          obtain ⟨n1, rfl⟩ := hD.out
          go_wp2_with fail
          refine (matrix_Check.calls k1 _ c1 l1 _ _ (Kd.C_below H1.out hD.below) hc1 HK1.out).mono ?_
          rintro e w2 ⟨rfl, hD2⟩
          obtain ⟨n2, rfl⟩ := hD2.out
          go_wp2_with fail
          go_quiet (fail)
          go_wp2_with fail
          have hB4 := Aside0.mk (pw_below_drewN (pw_below_drewN (Below.refl w.heap.size w) (n1 + n2)) nq)
          have hda4 := pw_cell_below hB4.out hda
          have hdb4 := pw_cell_below hB4.out hdb
          have hS4 : Aside0 (((w.drewN (n1 + n2)).drewN nq).heap.size = w.heap.size) := ⟨rfl⟩
          generalize ((w.drewN (n1 + n2)).drewN nq) = W4 at hB4 hda4 hdb4 hS4 ⊢
          clear hda hdb
          go_still_tail 11, (by kernel_rfl)
          change wpList _ _ _ _ _ W4.drew
          have hS5 : W4.drew.heap.size = w.heap.size := hS4.out
          go_wp2_with fail
          clear hsum
          refine (blank_grid l0.length s (by omega) (by have := HS.out; omega) _).mono ?_
          rintro e w3 ⟨bb, rfl, hG, hbl⟩
          have HB := Aside0.mk (Below.trans (Below.drew hB4.out) (hbl.mono (by show w.heap.size ≤ W4.heap.size; rw [hS4.out]; exact Nat.le_refl _)))
          have HG : Aside0 (Grid w3 31 5 w.heap.size w.heap.size l0.length s bb (fun _ _ => 0)) := ⟨by rw [← hS4.out]; exact hG⟩
          clear hG hbl hda4 hdb4 e1 hs512 hs512'
          go_wp2_with fail
          go_loopg [48] l0.length (fun kq v48 wr => ∃ k, kq = l0.length - k ∧ k ≤ l0.length ∧ v48 = .int .i64 (k : Int) ∧ Grid wr 31 5 w.heap.size w.heap.size l0.length s bb (fun i j => if i < k then beside8 (wid l0) (toM l0) (toM l1) i j else 0) ∧ Below w.heap.size w wr)
          case atStart => exact ⟨0, rfl, Nat.zero_le _, rfl, HG.out.congr (fun i j _ _ => by simp), HB.out⟩
          case round =>
            obtain ⟨k, rfl, hk, rfl, hG, hB⟩ := hrel
            have HG2 := Aside0.mk hG
            have HB2 := Aside0.mk hB
            clear hG hB HG HB
            by_cases hlt : k < l0.length
            · have hc1 := HG2.out.hd.cell hlt
              obtain ⟨f0, p0, hr0⟩ := HR0.out
              obtain ⟨f1, p1, hr1⟩ := HR1.out
              have hlt1 : k < l1.length := by have := HD.out; omega
              obtain ⟨ha1, ha2, ha3⟩ := hr0 k hlt
              obtain ⟨hb1, hb2, hb3⟩ := hr1 k hlt1
              have ha1' := pw_cell_below HB2.out ha1
              have A3 := Aside0.mk ha3
              have B3 := Aside0.mk hb3
              have B1 := Aside0.mk hb1
              have R0 := Aside0.mk hr0
              have R1 := Aside0.mk hr1
              clear ha1 ha3 hb3 hr0 hr1 hb1
              go_wp2
              go_still_tail 8, (by kernel_rfl)
              change wpList _ _ _ _ _ wr.drew
              refine wpList_copy_at rfl (.tmp 54) (.tmp 58) 31 31 rfl 5 Try.underlying31 (by kernel_rfl) rfl rfl (HG2.out.row k hlt) (wid l0) (by have := HS.out; omega) (fun j => .int .u8 ((toM l0 k j).1 : Nat)) (fun _ => ⟨rfl, _, rfl, fun j hj => pw_cell_below HB2.out (A3.out j hj)⟩) (by have := HS.out; omega) (fun _ _ => rfl) ?_
              intro W1 hrow hbut
              replace hbut := hbut.undrew
              have HG3 := Aside0.mk (HG2.out.putrow (v := toM l0 k) hlt hrow hbut)
              have HB3 := Aside0.mk (HB2.out.trans (hbut.below (B := w.heap.size) (HG2.out.geb k hlt)))
              clear hrow hbut HG2 HB2 hc1 ha1'
              have hc1 := HG3.out.hd.cell hlt
              have hb1' := pw_cell_below HB3.out B1.out
              obtain ⟨i5, hi5, -, hs5, -⟩ := info_parts info5'
              have hcut := cut_row (P := Try.prog) 31 5 .i64 Try.underlying31 hi5 hs5 (bb k) s s (wid l0) (by have := HS.out; omega) (by have := HS.out; omega)
              rw [show s - wid l0 = wid l1 by have := HS.out; omega] at hcut
              go_wp2
              go_still_tail 10, (by kernel_rfl)
              change wpList _ _ _ _ _ W1.drew
              refine wpList_copy_at rfl (.tmp 65) (.tmp 69) 31 31 rfl 5 Try.underlying31 (by kernel_rfl) rfl rfl (off := wid l0) (HG3.out.row k hlt) (wid l1) (by omega) (fun j => .int .u8 ((toM l1 k j).1 : Nat)) (fun _ => ⟨rfl, _, rfl, fun j hj => pw_cell_below HB3.out (B3.out j hj)⟩) (by have := HS.out; omega) (fun _ _ => rfl) ?_
              intro W2 hrow hbut
              replace hbut := hbut.undrew
              have HG4 := Aside0.mk (HG3.out.putrow (v := toM l1 k) hlt hrow hbut)
              have HB4 := Aside0.mk (HB3.out.trans (hbut.below (B := w.heap.size) (HG3.out.geb k hlt)))
              clear hrow hbut HG3 HB3 hc1 hb1' hcut hi5 hs5
              go_wp2
              go_roundg (l0.length - (k + 1))
              case measure => omega
              case rel =>
                refine ⟨k + 1, rfl, by omega, by go_num, HG4.out.congr (fun i j hi hj => ?_), HB4.out⟩
                have hs' := HS.out
                show (if i = k ∧ wid l0 ≤ j ∧ j < wid l0 + wid l1 then toM l1 k (j - wid l0) else if i = k ∧ 0 ≤ j ∧ j < 0 + wid l0 then toM l0 k (j - 0) else if i < k then (if j < wid l0 then toM l0 i j else toM l1 i (j - wid l0)) else 0) = if i < k + 1 then (if j < wid l0 then toM l0 i j else toM l1 i (j - wid l0)) else 0
                by_cases e : i = k
                · subst e
                  by_cases e2 : j < wid l0
                  · rw [if_neg (by omega), if_pos ⟨rfl, by omega, by omega⟩, if_pos (show i < i + 1 by omega), if_pos e2]
                    rfl
                  · rw [if_pos ⟨rfl, by omega, by omega⟩, if_pos (show i < i + 1 by omega), if_neg e2]
                · rw [if_neg (fun h => e h.1), if_neg (fun h => e h.1)]
                  by_cases e3 : i < k
                  · rw [if_pos e3, if_pos (show i < k + 1 by omega)]
                  · rw [if_neg e3, if_neg (show ¬ i < k + 1 by omega)]
            · have he' := Option.some.inj he.out
              simp only [Prod.mk.injEq] at he'
              obtain ⟨rfl, rfl⟩ := he'
              have hs' := HS.out
              subst hs'
              go_wp2
              go_ret2
              exact ⟨_, rfl, (HG2.out.congr (fun i j hi hj => if_pos (by omega))).toS (by unfold maxLen; omega) (by unfold maxLen; omega) trivial (fun _ _ => trivial), HB2.out⟩
        · rw [if_neg hb] at h; exact absurd h (by simp)
      · rw [if_neg hd] at h
        obtain ⟨rfl, rfl⟩ : r1 = [] ∧ r2 = 101 := by
          have := Option.some.inj h
          simp only [Prod.mk.injEq] at this
          exact ⟨this.1.symm, this.2.symm⟩
        clear h hc hcb
        by_cases h1 : l0.length = l1.length
        · have e1 : ((l0.length : Int) != (l1.length : Int)) = false := bne_eq_false_iff_eq.2 (by omega)
          have hs512 : (512 : Int) < (s : Int) := by omega
          have hs512' : decide ((512 : Int) < (s : Int)) = true := decide_eq_true hs512
          clear h1 hd hs
          go_enter Try.func54, Try.ntmps54
          go_wp2_with fail
          refine (matrix_Check.calls k0 _ c0 l0 _ _ H0.out hc0 HK0.out).mono ?_
          rintro e w1 ⟨rfl, hD⟩
          obtain ⟨n1, rfl⟩ := hD.out
          go_wp2_with fail
          refine (matrix_Check.calls k1 _ c1 l1 _ _ (Kd.C_below H1.out hD.below) hc1 HK1.out).mono ?_
          rintro e w2 ⟨rfl, hD2⟩
          obtain ⟨n2, rfl⟩ := hD2.out
          go_wp2_with fail
          go_quiet (fail)
          go_wp2
          go_ret2
          exact ⟨_, rfl, Kd.S_nil _ _ _ _ _, pw_below_drewN (pw_below_drewN (Below.refl w.heap.size w) (n1 + n2)) nq⟩
        · have e1 : ((l0.length : Int) != (l1.length : Int)) = true := bne_iff_ne.2 (by omega)
          clear h1 hd hs
          go_enter Try.func54, Try.ntmps54
          go_wp2_with fail
          refine (matrix_Check.calls k0 _ c0 l0 _ _ H0.out hc0 HK0.out).mono ?_
          rintro e w1 ⟨rfl, hD⟩
          obtain ⟨n1, rfl⟩ := hD.out
          go_wp2_with fail
          refine (matrix_Check.calls k1 _ c1 l1 _ _ (Kd.C_below H1.out hD.below) hc1 HK1.out).mono ?_
          rintro e w2 ⟨rfl, hD2⟩
          obtain ⟨n2, rfl⟩ := hD2.out
          go_wp2_with fail
          go_quiet (fail)
          go_wp2
          go_ret2
          exact ⟨_, rfl, Kd.S_nil _ _ _ _ _, pw_below_drewN (pw_below_drewN (Below.refl w.heap.size w) (n1 + n2)) nq⟩
    · rw [if_neg hcb] at hk1
      rw [if_neg (fun h => hcb h.2)] at h
      obtain ⟨rfl, rfl⟩ : r1 = [] ∧ r2 = 100 := by
        have := Option.some.inj h
        simp only [Prod.mk.injEq] at this
        exact ⟨this.1.symm, this.2.symm⟩
      have HK1 := Aside0.mk hk1
      clear h hk1 hc hcb
      go_enter Try.func54, Try.ntmps54
      go_wp2_with fail
      refine (matrix_Check.calls k0 A0 c0 l0 _ _ H0.out hc0 HK0.out).mono ?_
      rintro e w1 ⟨rfl, hD⟩
      go_wp2_with fail
      refine (matrix_Check.calls k1 A1 c1 l1 _ _ (Kd.C_below H1.out hD.below) hc1 HK1.out).mono ?_
      rintro e w2 ⟨rfl, hD2⟩
      go_wp2
      go_ret2
      exact ⟨_, rfl, Kd.S_nil _ _ _ _ _, hD.below.trans (hD2.below.mono hD.below.size)⟩
  · rw [if_neg hc] at hk0
    rw [if_neg (fun h => hc h.1)] at h
    obtain ⟨rfl, rfl⟩ : r1 = [] ∧ r2 = 100 := by
      have := Option.some.inj h
      simp only [Prod.mk.injEq] at this
      exact ⟨this.1.symm, this.2.symm⟩
    have HK0 := Aside0.mk hk0
    clear h hk0 hc
    go_enter Try.func54, Try.ntmps54
    go_wp2_with fail
    refine (matrix_Check.calls k0 A0 c0 l0 _ _ H0.out hc0 HK0.out).mono ?_
    rintro e w1 ⟨rfl, hD⟩
    go_wp2
    go_ret2
    exact ⟨_, rfl, Kd.S_nil _ _ _ _ _, hD.below⟩
end Go.Proofs.Ytidogckochpbgaa.A
