import Derived.Test.YtkdoilmfchlpdaaM1
import Derived.Test.YtkdoilmfchlpdaaBridge
import Derived.Test.YtkdoilmfchlpdaaChk
namespace Go.Proofs.Ytkdoilmfchlpdaa.A
open Go.RowKit Go.Deep Go.Proofs.YtkdoilmfchlpdaaW.PrintWords Go.Proofs.YtkdoilmfchlpdaaW.PrintLast Go.Proofs.YtkdoilmfchlpdaaW.PrintMore Go.Proofs.Ytkdoilmfchlpdaa.R
set_option linter.unusedVariables false
set_option linter.unusedSimpArgs false
/-- Pick. -/
def matrix_Pick.f (l : List (List Int)) (rows : List Int) : Option (List (List Int) × Int) :=
  if chk l = true then (if 1 ≤ rows.length ∧ rows.length ≤ 256 ∧ (rows.all fun n => decide (0 ≤ n) && decide (n < (l.length : Int))) = true then
    (if byt l = true then some (mt rows.length (wid l) (fun i j => toM l (rows.getD i 0).toNat j), 0) else none) else some ([], 7)) else some ([], 100)
set_option maxHeartbeats 4000000 in
set_option maxRecDepth 100000 in
theorem matrix_Pick.calls (A0 : Option Addr) (c0 : Nat) (l0 : List (List Int)) (A1 : Option Addr) (c1 : Nat) (l1 : List Int) (r1 : List (List Int)) (r2 : Int) (w : World) (hr0 : Kd.C (Kd.slice 5 (Kd.int .u8)) w A0 l0.length l0) (hc0 : l0.length ≤ c0) (hr1 : Kd.C (Kd.int .i64) w A1 l1.length l1) (hc1 : l1.length ≤ c1) (h : matrix_Pick.f l0 l1 = some (r1, r2)) :
    Calls Try.prog 47 #[.slice A0 l0.length c0, .slice A1 l1.length c1] w fun e w' => ∃ v0_ : Value, e = .returned (.tuple #[v0_, .int .i64 r2]) ∧ Kd.S (Kd.slice 5 (Kd.int .u8)) 22 w' w.heap.size (fun _ => True) v0_ r1 ∧ Below w.heap.size w w' := by
  obtain ⟨kc, hk⟩ := (Check_any l0).rounds
  unfold matrix_Pick.f at h
  have H0 := Aside0.mk hr0
  have H1 := Aside0.mk hr1
  clear hr0 hr1
  by_cases hc : chk l0 = true
  · rw [if_pos hc] at h hk
    obtain ⟨hm1, hm2, hw1, hw2, -⟩ := chk_iff.1 hc
    have HK := Aside0.mk hk
    clear hk
    obtain ⟨ad, rfl, fa, ca, hda⟩ : ∃ ad, A0 = some ad ∧ ∃ (f : Addr) (cp : Nat), w.cell? ad = some (.slice (some f) (wid l0) cp) := first_row hm1 hw1 H0.out
    have hm1' : 0 < l0.length := hm1
    by_cases hr : 1 ≤ l1.length ∧ l1.length ≤ 256
    · obtain ⟨g1, g2⟩ := hr
      obtain ⟨bd, rfl, hl1⟩ := int_get H1.out (by omega)
      have L1 := Aside0.mk hl1
      clear hl1
      by_cases ha : (l1.all fun n => decide (0 ≤ n) && decide (n < (l0.length : Int))) = true
      · rw [if_pos ⟨g1, g2, ha⟩] at h
        by_cases hb : byt l0 = true
        · rw [if_pos hb] at h
          have ha' : ∀ i, i < l1.length → 0 ≤ l1.getD i 0 ∧ l1.getD i 0 < (l0.length : Int) := by
            intro i hi
            have := List.all_eq_true.1 ha l1[i] (List.getElem_mem hi)
            rw [List.getD_eq_getElem?_getD, List.getElem?_eq_getElem hi]
            simpa using this
          have HA := Aside0.mk ha'
          have q0 := H0.out
          rw [toM_eq hc hb] at q0
          obtain ⟨ad', e', hR0⟩ := rdm_of_C (by omega) (by omega) q0
          obtain rfl := Option.some.inj e'
          have HR0 := Aside0.mk hR0
          have he := Aside0.mk h
          clear q0 e' hR0 hc hb ha ha' h
          go_enter Try.func47, Try.ntmps47
          go_wp2_with fail
          refine (matrix_Check.calls kc _ c0 l0 _ _ H0.out hc0 HK.out).mono ?_
          rintro e w1 ⟨rfl, hD⟩
          obtain ⟨n1, rfl⟩ := hD.out
          go_wp2_with fail
          go_loopg [24] l1.length (fun kq v24 wr => ∃ k, kq = l1.length - k ∧ k ≤ l1.length ∧ v24 = .int .i64 (k : Int) ∧ wr = w.drewN n1)
          case atStart => exact ⟨0, rfl, Nat.zero_le _, rfl, rfl⟩
          case round =>
            obtain ⟨k, rfl, hk, rfl, rfl⟩ := hrel
            by_cases hlt : k < l1.length
            · have hc1' := L1.out k hlt
              obtain ⟨g3, g4⟩ := HA.out k hlt
              obtain ⟨v, hv⟩ : ∃ v, v = l1.getD k 0 := ⟨_, rfl⟩
              rw [← hv] at hc1' g3 g4
              clear hv
              go_wp2
              go_roundg (l1.length - (k + 1))
              case measure => omega
              case rel => exact ⟨k + 1, rfl, by omega, by go_num, rfl⟩
            · go_wp2_with fail
              refine (blank_grid l1.length (wid l0) (by omega) (by omega) _).mono ?_
              rintro e w3 ⟨b, rfl, hG, hbl⟩
              have HB := Aside0.mk (Below.trans (pw_below_drewN (Below.refl w.heap.size w) n1) hbl)
              have HG : Aside0 (Grid w3 22 5 w.heap.size w.heap.size l1.length (wid l0) b (fun _ _ => 0)) := ⟨hG⟩
              clear hD hG hbl hda hlt
              go_wp2_with fail
              go_loopg [46] l1.length (fun kq v46 wr => ∃ k, kq = l1.length - k ∧ k ≤ l1.length ∧ v46 = .int .i64 (k : Int) ∧ Grid wr 22 5 w.heap.size w.heap.size l1.length (wid l0) b (fun i j => if i < k then toM l0 (l1.getD i 0).toNat j else 0) ∧ Below w.heap.size w wr)
              case atStart => exact ⟨0, rfl, Nat.zero_le _, rfl, HG.out.congr (fun i j _ _ => by simp), HB.out⟩
              case round =>
                obtain ⟨k, rfl, hk, rfl, hG, hB⟩ := hrel
                have HG6 := Aside0.mk hG
                have HB6 := Aside0.mk hB
                clear hG hB HG HB
                by_cases hlt : k < l1.length
                · have hd1 := HG6.out.hd.cell hlt
                  have hc1' := pw_cell_below HB6.out (L1.out k hlt)
                  obtain ⟨g3, g4⟩ := HA.out k hlt
                  obtain ⟨z, hz⟩ := Int.eq_ofNat_of_zero_le g3
                  rw [hz] at hc1' g4
                  have HZ := Aside0.mk hz
                  have hzl : z < l0.length := by omega
                  obtain ⟨f, cp, hf⟩ := HR0.out
                  obtain ⟨hs1, hs2, hs3⟩ := hf z hzl
                  have hs1' := pw_cell_below HB6.out hs1
                  have S3 := Aside0.mk hs3
                  clear hs1 hs3 hf hz g3
                  go_wp2
                  go_still_tail 8, (by kernel_rfl)
                  change wpList _ _ _ _ _ wr.drew
                  refine wpList_copy_at rfl (.tmp 54) (.tmp 58) 22 22 rfl 5 Try.underlying22 (by kernel_rfl) rfl rfl (HG6.out.row k hlt) (wid l0) (by omega) (fun j => .int .u8 ((toM l0 z j).1 : Nat)) (fun _ => ⟨rfl, _, rfl, fun j hj => pw_cell_below HB6.out (S3.out j hj)⟩) (by omega) (fun _ _ => rfl) ?_
                  intro W1 hrow hbut
                  replace hbut := hbut.undrew
                  have HG8 := Aside0.mk (HG6.out.putrow (v := fun j => toM l0 z j) hlt hrow hbut)
                  have HB8 := Aside0.mk (HB6.out.trans (hbut.below (B := w.heap.size) (HG6.out.geb k hlt)))
                  clear hrow hbut HG6 HB6 hd1 hc1' hs1' hzl g4
                  go_wp2
                  go_roundg (l1.length - (k + 1))
                  case measure => omega
                  case rel =>
                    refine ⟨k + 1, rfl, by omega, by go_num, HG8.out.congr (fun i j hi hj => ?_), HB8.out⟩
                    show (if i = k ∧ 0 ≤ j ∧ j < 0 + wid l0 then toM l0 z (j - 0) else if i < k then toM l0 (l1.getD i 0).toNat j else 0) = if i < k + 1 then toM l0 (l1.getD i 0).toNat j else 0
                    by_cases e : i = k
                    · subst e
                      rw [if_pos ⟨rfl, by omega, by omega⟩, if_pos (show i < i + 1 by omega), HZ.out]
                      rfl
                    · rw [if_neg (fun h => e h.1)]
                      by_cases e3 : i < k
                      · rw [if_pos e3, if_pos (show i < k + 1 by omega)]
                      · rw [if_neg e3, if_neg (show ¬ i < k + 1 by omega)]
                · have he' := Option.some.inj he.out
                  simp only [Prod.mk.injEq] at he'
                  obtain ⟨rfl, rfl⟩ := he'
                  go_wp2
                  go_ret2
                  exact ⟨_, rfl, (HG6.out.congr (fun i j hi hj => if_pos (by omega))).toS (by unfold maxLen; omega) (by unfold maxLen; omega) trivial (fun _ _ => trivial), HB6.out⟩
        · rw [if_neg hb] at h; exact absurd h (by simp)
      · rw [if_neg (fun h => ha h.2.2)] at h
        obtain ⟨rfl, rfl⟩ : r1 = [] ∧ r2 = 7 := by
          have := Option.some.inj h
          simp only [Prod.mk.injEq] at this
          exact ⟨this.1.symm, this.2.symm⟩
        have ha' : ¬ ∀ i, i < l1.length → 0 ≤ l1.getD i 0 ∧ l1.getD i 0 < (l0.length : Int) := by
          intro hh
          apply ha
          rw [List.all_eq_true]
          intro x hx
          obtain ⟨i, hi, rfl⟩ := List.getElem_of_mem hx
          have := hh i hi
          rw [List.getD_eq_getElem?_getD, List.getElem?_eq_getElem hi] at this
          simpa using this
        have HA := Aside0.mk ha'
        clear h hc ha ha'
        go_enter Try.func47, Try.ntmps47
        go_wp2_with fail
        refine (matrix_Check.calls kc _ c0 l0 _ _ H0.out hc0 HK.out).mono ?_
        rintro e w1 ⟨rfl, hD⟩
        obtain ⟨n1, rfl⟩ := hD.out
        go_wp2_with fail
        go_loopg [24] l1.length (fun kq v24 wr => ∃ k, kq = l1.length - k ∧ k ≤ l1.length ∧ v24 = .int .i64 (k : Int) ∧ wr = w.drewN n1 ∧ Aside0 (∀ i, i < k → 0 ≤ l1.getD i 0 ∧ l1.getD i 0 < (l0.length : Int)))
        case atStart => exact ⟨0, rfl, Nat.zero_le _, rfl, rfl, ⟨fun i hi => by omega⟩⟩
        case round =>
          obtain ⟨k, rfl, hk, rfl, rfl, HP⟩ := hrel
          by_cases hlt : k < l1.length
          · have hc1' := L1.out k hlt
            obtain ⟨v, hv⟩ : ∃ v, v = l1.getD k 0 := ⟨_, rfl⟩
            rw [← hv] at hc1'
            have HV := Aside0.mk hv
            clear hv
            by_cases hg : 0 ≤ v ∧ v < (l0.length : Int)
            · obtain ⟨g3, g4⟩ := hg
              go_wp2
              go_roundg (l1.length - (k + 1))
              case measure => omega
              case rel => exact ⟨k + 1, rfl, by omega, by go_num, rfl, ⟨fun i hi => by
                by_cases e : i = k
                · subst e; rw [← HV.out]; exact ⟨g3, g4⟩
                · exact HP.out i (by omega)⟩⟩
            · have HGn := Aside0.mk hg
              clear hg
              go_wp2_with fail
              all_goals first
                | (go_ret2; exact ⟨_, rfl, Kd.S_nil _ _ _ _ _, hD.below⟩)
                | (exfalso; apply HGn.out; refine ⟨?_, ?_⟩ <;> omega)
          · exfalso
            exact HA.out (fun i hi => HP.out i (by omega))
    · rw [if_neg (fun h => hr ⟨h.1, h.2.1⟩)] at h
      obtain ⟨rfl, rfl⟩ : r1 = [] ∧ r2 = 7 := by
        have := Option.some.inj h
        simp only [Prod.mk.injEq] at this
        exact ⟨this.1.symm, this.2.symm⟩
      have HR := Aside0.mk hr
      clear h hc hr
      go_enter Try.func47, Try.ntmps47
      go_wp2_with fail
      refine (matrix_Check.calls kc _ c0 l0 _ _ H0.out hc0 HK.out).mono ?_
      rintro e w1 ⟨rfl, hD⟩
      obtain ⟨n1, rfl⟩ := hD.out
      go_wp2_with fail
      all_goals first
        | (go_ret2; exact ⟨_, rfl, Kd.S_nil _ _ _ _ _, hD.below⟩)
        | (exfalso; apply HR.out; refine ⟨?_, ?_⟩ <;> omega)
  · rw [if_neg hc] at h hk
    obtain ⟨rfl, rfl⟩ : r1 = [] ∧ r2 = 100 := by
      have := Option.some.inj h
      simp only [Prod.mk.injEq] at this
      exact ⟨this.1.symm, this.2.symm⟩
    have HK := Aside0.mk hk
    clear h hk hc
    go_enter Try.func47, Try.ntmps47
    go_wp2_with fail
    refine (matrix_Check.calls kc A0 c0 l0 _ _ H0.out hc0 HK.out).mono ?_
    rintro e w1 ⟨rfl, hD⟩
    go_wp2
    go_ret2
    exact ⟨_, rfl, Kd.S_nil _ _ _ _ _, hD.below⟩
end Go.Proofs.Ytkdoilmfchlpdaa.A
