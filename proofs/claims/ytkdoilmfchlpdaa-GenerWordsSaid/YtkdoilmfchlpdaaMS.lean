import Derived.Test.YtkdoilmfchlpdaaM2
import Derived.Test.YtkdoilmfchlpdaaBridge
import Derived.Test.YtkdoilmfchlpdaaChk
import Derived.Test.YtkdoilmfchlpdaaM12
namespace Go.Proofs.Ytkdoilmfchlpdaa.A
open Go.RowKit Go.Deep Go.Proofs.YtkdoilmfchlpdaaW.PrintWords Go.Proofs.YtkdoilmfchlpdaaW.PrintLast Go.Proofs.YtkdoilmfchlpdaaW.PrintMore Go.Proofs.Ytkdoilmfchlpdaa.R
set_option linter.unusedVariables false
set_option linter.unusedSimpArgs false
/-- Solve. -/
def matrix_Solve.f (a b : List (List Int)) : Option (List (List Int) × Int) :=
  if chk a = true ∧ chk b = true then (if a.length = wid a ∧ a.length = b.length then (if byt a = true ∧ byt b = true then
    (if (LA.gj a.length (beside8 a.length (toM a) (toM b)) a.length).2.1.length < a.length then some ([], 102)
     else some (mt a.length (wid b) (fun i j => (LA.gj a.length (beside8 a.length (toM a) (toM b)) a.length).1 i (a.length + j)), 0)) else none) else some ([], 101)) else some ([], 100)
set_option maxHeartbeats 2000000 in
set_option maxRecDepth 100000 in
theorem matrix_Solve.calls (A0 : Option Addr) (c0 : Nat) (l0 : List (List Int)) (A1 : Option Addr) (c1 : Nat) (l1 : List (List Int)) (r1 : List (List Int)) (r2 : Int) (w : World) (hr0 : Kd.C (Kd.slice 5 (Kd.int .u8)) w A0 l0.length l0) (hc0 : l0.length ≤ c0) (hr1 : Kd.C (Kd.slice 5 (Kd.int .u8)) w A1 l1.length l1) (hc1 : l1.length ≤ c1) (h : matrix_Solve.f l0 l1 = some (r1, r2)) :
    Calls Try.prog 68 #[.slice A0 l0.length c0, .slice A1 l1.length c1] w fun e w' => ∃ v0_ : Value, e = .returned (.tuple #[v0_, .int .i64 r2]) ∧ Kd.S (Kd.slice 5 (Kd.int .u8)) 22 w' w.heap.size (fun _ => True) v0_ r1 ∧ Below w.heap.size w w' := by
  obtain ⟨k0, hk0⟩ := (Check_any l0).rounds
  obtain ⟨k1, hk1⟩ := (Check_any l1).rounds
  unfold matrix_Solve.f at h
  have H0 := Aside0.mk hr0
  have H1 := Aside0.mk hr1
  clear hr0 hr1
  by_cases hc : chk l0 = true
  · rw [if_pos hc] at hk0
    have HK0 := Aside0.mk hk0
    clear hk0
    by_cases hcb : chk l1 = true
    · rw [if_pos hcb] at hk1
      rw [if_pos ⟨hc, hcb⟩] at h
      have HK1 := Aside0.mk hk1
      clear hk1
      obtain ⟨am1, am2, aw1, aw2, -⟩ := chk_iff.1 hc
      obtain ⟨bm1, bm2, bw1, bw2, -⟩ := chk_iff.1 hcb
      obtain ⟨ad, rfl, fa, ca, hda⟩ : ∃ ad, A0 = some ad ∧ ∃ (f : Addr) (cp : Nat), w.cell? ad = some (.slice (some f) (wid l0) cp) := first_row am1 aw1 H0.out
      have am1' : 0 < l0.length := am1
      by_cases hd : l0.length = wid l0 ∧ l0.length = l1.length
      · rw [if_pos hd] at h
        by_cases hb : byt l0 = true ∧ byt l1 = true
        · rw [if_pos hb] at h
          have q0 := H0.out
          have q1 := H1.out
          rw [toM_eq hc hb.1] at q0
          rw [toM_eq hcb hb.2] at q1
          obtain ⟨ad', e', hR0⟩ := rdm_of_C (by omega) (by omega) q0
          obtain ⟨bd, rfl, hR1⟩ := rdm_of_C (by omega) (by omega) q1
          obtain rfl := Option.some.inj e'
          have HR0 := Aside0.mk hR0
          have HR1 := Aside0.mk hR1
          clear q0 q1 e' hR0 hR1
          obtain ⟨fb, cb, hdb⟩ : ∃ (f : Addr) (cp : Nat), w.cell? bd = some (.slice (some f) (wid l1) cp) := by
            obtain ⟨f, cp, h⟩ := HR1.out
            have := (h 0 (by omega)).1
            rw [Addr.add_zero'] at this
            exact ⟨_, _, this⟩
          have bm1' : 0 < l1.length := bm1
          have hd1 := hd.1
          have hd2 := hd.2
          have e1 : ((l0.length : Int) != (wid l0 : Int)) = false := bne_eq_false_iff_eq.2 (by omega)
          have e2 : ((l0.length : Int) != (l1.length : Int)) = false := bne_eq_false_iff_eq.2 (by omega)
          have HD := Aside0.mk (And.intro hd1 hd2)
          have he := Aside0.mk h
          clear h hc hcb hd hb hd1 hd2
          go_enter Try.func68, Try.ntmps68
          go_wp2_with fail
          refine (matrix_Check.calls k0 _ c0 l0 _ _ H0.out hc0 HK0.out).mono ?_
          rintro e w1 ⟨rfl, hD⟩
          obtain ⟨n1, rfl⟩ := hD.out
          go_wp2_with fail
          refine (matrix_Check.calls k1 _ c1 l1 _ _ (Kd.C_below H1.out hD.below) hc1 HK1.out).mono ?_
          rintro e w2 ⟨rfl, hD2⟩
          obtain ⟨n2, rfl⟩ := hD2.out
          go_wp2_with fail
          rw [show ((l0.length : Int) + (wid l1 : Int)) = ((l0.length + wid l1 : Nat) : Int) by omega]
          refine (blank_grid l0.length (l0.length + wid l1) (by omega) (by omega) _).mono ?_
          rintro e w3 ⟨b, rfl, hG, hbl⟩
          have HB := Aside0.mk (Below.trans (pw_below_drewN (Below.refl w.heap.size w) (n1 + n2)) hbl)
          have HG : Aside0 (Grid w3 22 5 w.heap.size w.heap.size l0.length (l0.length + wid l1) b (fun _ _ => 0)) := ⟨hG⟩
          clear hD hD2 hG hbl
          go_wp2_with fail
          clear hda e1 e2
          have HDB := Aside0.mk hdb
          clear hdb
          go_loopg [45] l0.length (fun kq v45 wr => ∃ k, kq = l0.length - k ∧ k ≤ l0.length ∧ v45 = .int .i64 (k : Int) ∧ Grid wr 22 5 w.heap.size w.heap.size l0.length (l0.length + wid l1) b (fun i j => if i < k then beside8 l0.length (toM l0) (toM l1) i j else 0) ∧ Below w.heap.size w wr)
          case atStart => exact ⟨0, rfl, Nat.zero_le _, rfl, HG.out.congr (fun i j _ _ => by simp), HB.out⟩
          case round =>
            obtain ⟨k, rfl, hk, rfl, hG, hB⟩ := hrel
            have HG2 := Aside0.mk hG
            have HB2 := Aside0.mk hB
            clear hG hB HG HB
            by_cases hlt : k < l0.length
            · have hc1 := HG2.out.hd.cell hlt
              obtain ⟨f0, p0, hr0⟩ := HR0.out
              obtain ⟨f1, p1, hr1⟩ := HR1.out
              obtain ⟨ha1, ha2, ha3⟩ := hr0 k hlt
              obtain ⟨hb1, hb2, hb3⟩ := hr1 k (by have := HD.out.2; omega)
              have ha1' := pw_cell_below HB2.out ha1
              have A3 := Aside0.mk ha3
              have B3 := Aside0.mk hb3
              have B1 := Aside0.mk hb1
              have R0 := Aside0.mk hr0
              have R1 := Aside0.mk hr1
              clear ha1 ha3 hb3 hr0 hr1 hb1
              go_wp2
              go_still_tail 8, (by kernel_rfl)
              change wpList _ _ _ _ _ wr.drew
              refine wpList_copy_at rfl (.tmp 51) (.tmp 55) 22 22 rfl 5 Try.underlying22 (by kernel_rfl) rfl rfl (HG2.out.row k hlt) l0.length (by have := HD.out.1; omega) (fun j => .int .u8 ((toM l0 k j).1 : Nat)) (fun _ => ⟨rfl, _, rfl, fun j hj => pw_cell_below HB2.out (A3.out j (by have := HD.out.1; omega))⟩) (by omega) (fun _ _ => rfl) ?_
              intro W1 hrow hbut
              replace hbut := hbut.undrew
              have HG3 := Aside0.mk (HG2.out.putrow (v := toM l0 k) hlt hrow hbut)
              have HB3 := Aside0.mk (HB2.out.trans (hbut.below (B := w.heap.size) (HG2.out.geb k hlt)))
              clear hrow hbut HG2 HB2 hc1 ha1'
              have hc1 := HG3.out.hd.cell hlt
              have hb1' := pw_cell_below HB3.out B1.out
              obtain ⟨i5, hi5, -, hs5, -⟩ := info_parts info5'
              have hlt1 : k < l1.length := by have := HD.out.2; omega
              have hcut := cut_row (P := Try.prog) 22 5 .i64 Try.underlying22 hi5 hs5 (b k) (l0.length + wid l1) (l0.length + wid l1) l0.length (by omega) (by omega)
              rw [Nat.add_sub_cancel_left] at hcut
              go_wp2
              go_still_tail 10, (by kernel_rfl)
              change wpList _ _ _ _ _ W1.drew
              refine wpList_copy_at rfl (.tmp 62) (.tmp 66) 22 22 rfl 5 Try.underlying22 (by kernel_rfl) rfl rfl (off := l0.length) (HG3.out.row k hlt) (wid l1) (by omega) (fun j => .int .u8 ((toM l1 k j).1 : Nat)) (fun _ => ⟨rfl, _, rfl, fun j hj => pw_cell_below HB3.out (B3.out j hj)⟩) (by omega) (fun _ _ => rfl) ?_
              intro W2 hrow hbut
              replace hbut := hbut.undrew
              have HG4 := Aside0.mk (HG3.out.putrow (v := toM l1 k) hlt hrow hbut)
              have HB4 := Aside0.mk (HB3.out.trans (hbut.below (B := w.heap.size) (HG3.out.geb k hlt)))
              clear hrow hbut HG3 HB3 hc1 hb1' hcut hi5 hs5
              go_wp2
              go_roundg (l0.length - (k + 1))
              case measure => omega
              case rel =>
                refine ⟨k + 1, rfl, by omega, by go_num, HG4.out.congr (fun i j hi hj => ?_), HB4.out⟩
                show (if i = k ∧ l0.length ≤ j ∧ j < l0.length + wid l1 then toM l1 k (j - l0.length) else if i = k ∧ 0 ≤ j ∧ j < 0 + l0.length then toM l0 k (j - 0) else if i < k then (if j < l0.length then toM l0 i j else toM l1 i (j - l0.length)) else 0) = if i < k + 1 then (if j < l0.length then toM l0 i j else toM l1 i (j - l0.length)) else 0
                by_cases e : i = k
                · subst e
                  by_cases e2 : j < l0.length
                  · rw [if_neg (by omega), if_pos ⟨rfl, by omega, by omega⟩, if_pos (show i < i + 1 by omega), if_pos e2]
                    rfl
                  · rw [if_pos ⟨rfl, by omega, by omega⟩, if_pos (show i < i + 1 by omega), if_neg e2]
                · rw [if_neg (fun h => e h.1), if_neg (fun h => e h.1)]
                  by_cases e3 : i < k
                  · rw [if_pos e3, if_pos (show i < k + 1 by omega)]
                  · rw [if_neg e3, if_neg (show ¬ i < k + 1 by omega)]
            · have HG3 := Aside0.mk (HG2.out.congr (B := beside8 l0.length (toM l0) (toM l1)) (fun i j hi hj => if_pos (by omega)))
              have HB3 := HB2
              clear HG2 HB2
              go_wp2_with fail
              refine (reduce_grid l0.length (l0.length + wid l1) l0.length w.heap.size am1 (by omega) (by omega) (by omega) w.heap.size b (beside8 l0.length (toM l0) (toM l1)) wr HB3.out.size HG3.out).mono ?_
              rintro e w4 ⟨pv, b3, rfl, hG4, hown, hb4⟩
              have HB4 := Aside0.mk (HB3.out.trans hb4)
              have HG4 := Aside0.mk hG4
              have hdb' : w4.cell? bd = some (.slice (some fb) (wid l1) cb) := pw_cell_below HB4.out HDB.out
              obtain ⟨pA, pc, rfl⟩ := own_slice hown
              clear HB3 HG3 hb4 hG4 hown hlt
              by_cases hpv : (LA.gj l0.length (beside8 l0.length (toM l0) (toM l1)) l0.length).2.1.length < l0.length
              · have he' := he.out
                rw [if_pos hpv] at he'
                simp only [Option.some.injEq, Prod.mk.injEq] at he'
                obtain ⟨rfl, rfl⟩ := he'
                have hpv' : decide ((LA.gj l0.length (beside8 l0.length (toM l0) (toM l1)) l0.length).2.1.length < l0.length) = true := decide_eq_true hpv
                clear hpv
                go_wp2_with fail
                go_ret2
                exact ⟨_, rfl, Kd.S_nil _ _ _ _ _, HB4.out⟩
              · have he' := he.out
                rw [if_neg hpv] at he'
                simp only [Option.some.injEq, Prod.mk.injEq] at he'
                have HE := Aside0.mk he'
                have hpv' : decide ((LA.gj l0.length (beside8 l0.length (toM l0) (toM l1)) l0.length).2.1.length < l0.length) = false := decide_eq_false hpv
                clear hpv he'
                go_wp2_with fail
                clear hdb' hpv'
                refine (blank_grid l0.length (wid l1) (by omega) (by omega) _).mono ?_
                rintro e w5 ⟨bx, rfl, hG5, hb5⟩
                have HG5 := Aside0.mk hG5
                have HB5 := Aside0.mk hb5
                clear hG5 hb5
                obtain ⟨G, hGd⟩ : ∃ G, G = (LA.gj l0.length (beside8 l0.length (toM l0) (toM l1)) l0.length).1 := ⟨_, rfl⟩
                rw [← hGd] at HG4 HE
                clear hGd
                go_wp2_with fail
                go_loopg [87] l0.length (fun kq v87 wr => ∃ k, kq = l0.length - k ∧ k ≤ l0.length ∧ v87 = .int .i64 (k : Int) ∧ Grid wr 22 5 w4.heap.size w4.heap.size l0.length (wid l1) bx (fun i j => if i < k then G i (l0.length + j) else 0) ∧ Below w4.heap.size w4 wr)
                case atStart => exact ⟨0, rfl, Nat.zero_le _, rfl, HG5.out.congr (fun i j _ _ => by simp), HB5.out⟩
                case round =>
                  obtain ⟨k, rfl, hk, rfl, hG, hB⟩ := hrel
                  have HG6 := Aside0.mk hG
                  have HB6 := Aside0.mk hB
                  clear hG hB HG5 HB5
                  by_cases hlt : k < l0.length
                  · have hc1 := HG6.out.hd.cell hlt
                    have HG7 := Aside0.mk (HG4.out.below HB6.out)
                    have hc2 := HG7.out.hd.cell hlt
                    obtain ⟨i5, hi5, -, hs5, -⟩ := info_parts info5'
                    have hcut := cut_row (P := Try.prog) 22 5 .i64 Try.underlying22 hi5 hs5 (b3 k) (l0.length + wid l1) (l0.length + wid l1) l0.length (by omega) (by omega)
                    rw [Nat.add_sub_cancel_left] at hcut
                    go_wp2
                    go_still_tail 10, (by kernel_rfl)
                    change wpList _ _ _ _ _ wr.drew
                    refine wpList_copy_at rfl (.tmp 93) (.tmp 99) 22 22 rfl 5 Try.underlying22 (by kernel_rfl) rfl rfl (HG6.out.row k hlt) (wid l1) (by omega) (fun j => .int .u8 ((G k (l0.length + j)).1 : Nat)) (fun _ => ⟨rfl, _, rfl, fun j hj => by rw [add_at]; exact (HG7.out.row k hlt).cell (by omega)⟩) (by omega) (fun _ _ => rfl) ?_
                    intro W1 hrow hbut
                    replace hbut := hbut.undrew
                    have HG8 := Aside0.mk (HG6.out.putrow (v := fun j => G k (l0.length + j)) hlt hrow hbut)
                    have HB8 := Aside0.mk (HB6.out.trans (hbut.below (B := w4.heap.size) (HG6.out.geb k hlt)))
                    clear hrow hbut HG6 HB6 hc1 hc2 hcut hi5 hs5 HG7
                    go_wp2
                    go_roundg (l0.length - (k + 1))
                    case measure => omega
                    case rel =>
                      refine ⟨k + 1, rfl, by omega, by go_num, HG8.out.congr (fun i j hi hj => ?_), HB8.out⟩
                      show (if i = k ∧ 0 ≤ j ∧ j < 0 + wid l1 then G k (l0.length + (j - 0)) else if i < k then G i (l0.length + j) else 0) = if i < k + 1 then G i (l0.length + j) else 0
                      by_cases e : i = k
                      · subst e
                        rw [if_pos ⟨rfl, by omega, by omega⟩, if_pos (show i < i + 1 by omega)]
                        rfl
                      · rw [if_neg (fun h => e h.1)]
                        by_cases e3 : i < k
                        · rw [if_pos e3, if_pos (show i < k + 1 by omega)]
                        · rw [if_neg e3, if_neg (show ¬ i < k + 1 by omega)]
                  · obtain ⟨rfl, rfl⟩ := HE.out
                    go_wp2
                    go_ret2
                    exact ⟨_, rfl, ((HG6.out.congr (fun i j hi hj => if_pos (by omega))).lower HB4.out.size).toS (by unfold maxLen; omega) (by unfold maxLen; omega) trivial (fun _ _ => trivial), HB4.out.trans (HB6.out.mono HB4.out.size)⟩
        · rw [if_neg hb] at h; exact absurd h (by simp)
      · rw [if_neg hd] at h
        obtain ⟨rfl, rfl⟩ : r1 = [] ∧ r2 = 101 := by
          have := Option.some.inj h
          simp only [Prod.mk.injEq] at this
          exact ⟨this.1.symm, this.2.symm⟩
        clear h hc hcb
        by_cases h1 : l0.length = wid l0
        · have e1 : ((l0.length : Int) != (wid l0 : Int)) = false := bne_eq_false_iff_eq.2 (by omega)
          have e2 : ((l0.length : Int) != (l1.length : Int)) = true := bne_iff_ne.2 (by omega)
          clear h1 hd
          go_enter Try.func68, Try.ntmps68
          go_wp2_with fail
          refine (matrix_Check.calls k0 _ c0 l0 _ _ H0.out hc0 HK0.out).mono ?_
          rintro e w1 ⟨rfl, hD⟩
          obtain ⟨n1, rfl⟩ := hD.out
          go_wp2_with fail
          refine (matrix_Check.calls k1 A1 c1 l1 _ _ (Kd.C_below H1.out hD.below) hc1 HK1.out).mono ?_
          rintro e w2 ⟨rfl, hD2⟩
          obtain ⟨n2, rfl⟩ := hD2.out
          go_wp2
          go_ret2
          exact ⟨_, rfl, Kd.S_nil _ _ _ _ _, pw_below_drewN (Below.refl w.heap.size w) (n1 + n2)⟩
        · have e1 : ((l0.length : Int) != (wid l0 : Int)) = true := bne_iff_ne.2 (by omega)
          clear h1 hd
          go_enter Try.func68, Try.ntmps68
          go_wp2_with fail
          refine (matrix_Check.calls k0 _ c0 l0 _ _ H0.out hc0 HK0.out).mono ?_
          rintro e w1 ⟨rfl, hD⟩
          obtain ⟨n1, rfl⟩ := hD.out
          go_wp2_with fail
          refine (matrix_Check.calls k1 A1 c1 l1 _ _ (Kd.C_below H1.out hD.below) hc1 HK1.out).mono ?_
          rintro e w2 ⟨rfl, hD2⟩
          obtain ⟨n2, rfl⟩ := hD2.out
          go_wp2
          go_ret2
          exact ⟨_, rfl, Kd.S_nil _ _ _ _ _, pw_below_drewN (Below.refl w.heap.size w) (n1 + n2)⟩
    · rw [if_neg hcb] at hk1
      rw [if_neg (fun h => hcb h.2)] at h
      obtain ⟨rfl, rfl⟩ : r1 = [] ∧ r2 = 100 := by
        have := Option.some.inj h
        simp only [Prod.mk.injEq] at this
        exact ⟨this.1.symm, this.2.symm⟩
      have HK1 := Aside0.mk hk1
      clear h hk1 hc hcb
      go_enter Try.func68, Try.ntmps68
      go_wp2_with fail
      refine (matrix_Check.calls k0 A0 c0 l0 _ _ H0.out hc0 HK0.out).mono ?_
      rintro e w1 ⟨rfl, hD⟩
      go_wp2_with fail
      refine (matrix_Check.calls k1 A1 c1 l1 _ _ (Kd.C_below H1.out hD.below) hc1 HK1.out).mono ?_
      rintro e w2 ⟨rfl, hD2⟩
      go_wp2
      go_ret2
      exact ⟨_, rfl, Kd.S_nil _ _ _ _ _, hD.below.trans (hD2.below.mono hD.below.size)⟩
  · rw [if_neg hc] at hk0
    rw [if_neg (fun h => hc h.1)] at h
    obtain ⟨rfl, rfl⟩ : r1 = [] ∧ r2 = 100 := by
      have := Option.some.inj h
      simp only [Prod.mk.injEq] at this
      exact ⟨this.1.symm, this.2.symm⟩
    have HK0 := Aside0.mk hk0
    clear h hk0 hc
    go_enter Try.func68, Try.ntmps68
    go_wp2_with (first | (go_at_call 67; refine (matrix_Check.calls k0 A0 c0 l0 _ _ H0.out hc0 HK0.out).mono ?_; rintro e w1 ⟨rfl, hD⟩))
    go_ret2
    exact ⟨_, rfl, Kd.S_nil _ _ _ _ _, hD.below⟩
end Go.Proofs.Ytkdoilmfchlpdaa.A
