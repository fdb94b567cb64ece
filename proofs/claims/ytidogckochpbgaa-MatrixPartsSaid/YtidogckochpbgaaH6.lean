import Derived.Test.YtidogckochpbgaaH1
import Derived.Test.YtidogckochpbgaaL2
namespace Go.Proofs.Ytidogckochpbgaa.A
open Go.RowKit Go.Deep Go.Proofs.YtidogckochpbgaaW.PrintWords Go.Proofs.YtidogckochpbgaaW.PrintLast Go.Proofs.YtidogckochpbgaaW.PrintMore Go.Proofs.Ytidogckochpbgaa.R
set_option linter.unusedVariables false
set_option linter.unusedSimpArgs false
/-- Sub. -/
def matrix_Sub.f (l : List (List Int)) (r0 r1 c0 c1 : Int) : Option (List (List Int) × Int) :=
  if chk l = true then (if 0 ≤ r0 ∧ r0 < r1 ∧ r1 ≤ l.length ∧ 0 ≤ c0 ∧ c0 < c1 ∧ c1 ≤ wid l then
    (if byt l = true then some (mt (r1 - r0).toNat (c1 - c0).toNat (fun i j => toM l (r0.toNat + i) (c0.toNat + j)), 0) else none) else some ([], 7)) else some ([], 100)
set_option maxHeartbeats 4000000 in
set_option maxRecDepth 100000 in
theorem matrix_Sub.calls (A0 : Option Addr) (c0 : Nat) (l0 : List (List Int)) (a1 a2 a3 a4 : Int) (r1 : List (List Int)) (r2 : Int) (w : World) (hr0 : Kd.C (Kd.slice 5 (Kd.int .u8)) w A0 l0.length l0) (hc0 : l0.length ≤ c0) (h : matrix_Sub.f l0 a1 a2 a3 a4 = some (r1, r2)) :
    Calls Try.prog 53 #[.slice A0 l0.length c0, .int .i64 a1, .int .i64 a2, .int .i64 a3, .int .i64 a4] w fun e w' => ∃ v0_ : Value, e = .returned (.tuple #[v0_, .int .i64 r2]) ∧ Kd.S (Kd.slice 5 (Kd.int .u8)) 31 w' w.heap.size (fun _ => True) v0_ r1 ∧ Below w.heap.size w w' := by
  obtain ⟨kc, hk⟩ := (Check_any l0).rounds
  unfold matrix_Sub.f at h
  have H0 := Aside0.mk hr0
  clear hr0
  by_cases hc : chk l0 = true
  · rw [if_pos hc] at h hk
    obtain ⟨hm1, hm2, hw1, hw2, -⟩ := chk_iff.1 hc
    have HK := Aside0.mk hk
    clear hk
    obtain ⟨ad, rfl, fa, ca, hda⟩ : ∃ ad, A0 = some ad ∧ ∃ (f : Addr) (cp : Nat), w.cell? ad = some (.slice (some f) (wid l0) cp) := first_row hm1 hw1 H0.out
    have hm1' : 0 < l0.length := hm1
    by_cases hr : 0 ≤ a1 ∧ a1 < a2 ∧ a2 ≤ l0.length ∧ 0 ≤ a3 ∧ a3 < a4 ∧ a4 ≤ wid l0
    · rw [if_pos hr] at h
      by_cases hb : byt l0 = true
      · rw [if_pos hb] at h
        have q0 := H0.out
        rw [toM_eq hc hb] at q0
        obtain ⟨ad', e', hR0⟩ := rdm_of_C (by omega) (by omega) q0
        obtain rfl := Option.some.inj e'
        have HR0 := Aside0.mk hR0
        clear q0 e' hR0 hc hb
        obtain ⟨g1, g2, g3, g4, g5, g6⟩ := hr
        obtain ⟨x, rfl⟩ := Int.eq_ofNat_of_zero_le g1
        obtain ⟨m, rfl⟩ : ∃ m : Nat, a2 = ((x + m : Nat) : Int) := ⟨(a2 - x).toNat, by omega⟩
        obtain ⟨y, rfl⟩ := Int.eq_ofNat_of_zero_le g4
        obtain ⟨n, rfl⟩ : ∃ n : Nat, a4 = ((y + n : Nat) : Int) := ⟨(a4 - y).toNat, by omega⟩
        rw [show (((x + m : Nat) : Int) - (x : Int)).toNat = m by omega, show (((y + n : Nat) : Int) - (y : Int)).toNat = n by omega] at h
        simp only [Int.toNat_natCast] at h
        have he := Aside0.mk h
        clear h
        go_enter Try.func53, Try.ntmps53
        go_wp2_with fail
        refine (matrix_Check.calls kc _ c0 l0 _ _ H0.out hc0 HK.out).mono ?_
        rintro e w1 ⟨rfl, hD⟩
        obtain ⟨n1, rfl⟩ := hD.out
        go_wp2_with fail
        rw [show (x : Int) + (m : Int) - (x : Int) = (m : Int) by omega, show (y : Int) + (n : Int) - (y : Int) = (n : Int) by omega]
        refine (blank_grid m n (by omega) (by omega) _).mono ?_
        rintro e w3 ⟨b, rfl, hG, hbl⟩
        have HB := Aside0.mk (Below.trans (pw_below_drewN (Below.refl w.heap.size w) n1) hbl)
        have HG : Aside0 (Grid w3 31 5 w.heap.size w.heap.size m n b (fun _ _ => 0)) := ⟨hG⟩
        clear hD hG hbl hda
        go_wp2_with fail
        go_loopg [56] m (fun kq v56 wr => ∃ k, kq = m - k ∧ k ≤ m ∧ v56 = .int .i64 (k : Int) ∧ Grid wr 31 5 w.heap.size w.heap.size m n b (fun i j => if i < k then toM l0 (x + i) (y + j) else 0) ∧ Below w.heap.size w wr)
        case atStart => exact ⟨0, rfl, Nat.zero_le _, rfl, HG.out.congr (fun i j _ _ => by simp), HB.out⟩
        case round =>
          obtain ⟨k, rfl, hk, rfl, hG, hB⟩ := hrel
          have HG6 := Aside0.mk hG
          have HB6 := Aside0.mk hB
          clear hG hB HG HB
          by_cases hlt : k < m
          · have hc1 := HG6.out.hd.cell hlt
            obtain ⟨f, cp, hf⟩ := HR0.out
            obtain ⟨z, hz⟩ : ∃ z, z = x + k := ⟨_, rfl⟩
            have hzw : IntKind.i64.wrap ((x : Int) + (k : Int)) = (z : Int) := by rw [IntKind.wrap_i64]; omega
            have hzl : z < l0.length := by omega
            have HZ := Aside0.mk hz
            clear hz
            obtain ⟨hs1, hs2, hs3⟩ := hf z hzl
            have hs1' := pw_cell_below HB6.out hs1
            have S3 := Aside0.mk hs3
            obtain ⟨i5, hi5, -, hs5, -⟩ := info_parts info5'
            have hcut := cut_mid (P := Try.prog) 31 5 .i64 .i64 Try.underlying31 hi5 hs5 (f z) (wid l0) (cp z) y (y + n) (by omega) (by omega) (by omega)
            rw [Nat.add_sub_cancel_left] at hcut
            simp only [Int.natCast_add] at hcut
            clear hs1 hs3 hf hi5 hs5 
            go_wp2
            go_still_tail 13, (by kernel_rfl)
            change wpList _ _ _ _ _ wr.drew
            refine wpList_copy_at rfl (.tmp 62) (.tmp 71) 31 31 rfl 5 Try.underlying31 (by kernel_rfl) rfl rfl (HG6.out.row k hlt) n (by omega) (fun j => .int .u8 ((toM l0 z (y + j)).1 : Nat)) (fun _ => ⟨rfl, _, rfl, fun j hj => by rw [add_add]; exact pw_cell_below HB6.out (S3.out (y + j) (by omega))⟩) (by omega) (fun _ _ => rfl) ?_
            intro W1 hrow hbut
            replace hbut := hbut.undrew
            have HG8 := Aside0.mk (HG6.out.putrow (v := fun j => toM l0 z (y + j)) hlt hrow hbut)
            have HB8 := Aside0.mk (HB6.out.trans (hbut.below (B := w.heap.size) (HG6.out.geb k hlt)))
            clear hrow hbut HG6 HB6 hc1 hcut hs1' hzw hzl
            go_wp2
            go_roundg (m - (k + 1))
            case measure => omega
            case rel =>
              refine ⟨k + 1, rfl, by omega, by go_num, HG8.out.congr (fun i j hi hj => ?_), HB8.out⟩
              show (if i = k ∧ 0 ≤ j ∧ j < 0 + n then toM l0 z (y + (j - 0)) else if i < k then toM l0 (x + i) (y + j) else 0) = if i < k + 1 then toM l0 (x + i) (y + j) else 0
              by_cases e : i = k
              · subst e
                rw [if_pos ⟨rfl, by omega, by omega⟩, if_pos (show i < i + 1 by omega), HZ.out]
                rfl
              · rw [if_neg (fun h => e h.1)]
                by_cases e3 : i < k
                · rw [if_pos e3, if_pos (show i < k + 1 by omega)]
                · rw [if_neg e3, if_neg (show ¬ i < k + 1 by omega)]
          · have he' := Option.some.inj he.out
            simp only [Prod.mk.injEq] at he'
            obtain ⟨rfl, rfl⟩ := he'
            go_wp2
            go_ret2
            exact ⟨_, rfl, (HG6.out.congr (fun i j hi hj => if_pos (by omega))).toS (by unfold maxLen; omega) (by unfold maxLen; omega) trivial (fun _ _ => trivial), HB6.out⟩
      · rw [if_neg hb] at h; exact absurd h (by simp)
    · rw [if_neg hr] at h
      obtain ⟨rfl, rfl⟩ : r1 = [] ∧ r2 = 7 := by
        have := Option.some.inj h
        simp only [Prod.mk.injEq] at this
        exact ⟨this.1.symm, this.2.symm⟩
      have HR := Aside0.mk hr
      clear h hc hr
      go_enter Try.func53, Try.ntmps53
      go_wp2_with fail
      refine (matrix_Check.calls kc _ c0 l0 _ _ H0.out hc0 HK.out).mono ?_
      rintro e w1 ⟨rfl, hD⟩
      obtain ⟨n1, rfl⟩ := hD.out
      go_wp2_with fail
      all_goals first
        | (go_ret2; exact ⟨_, rfl, Kd.S_nil _ _ _ _ _, hD.below⟩)
        | (exfalso; apply HR.out; refine ⟨?_, ?_, ?_, ?_, ?_, ?_⟩ <;> omega)
  · rw [if_neg hc] at h hk
    obtain ⟨rfl, rfl⟩ : r1 = [] ∧ r2 = 100 := by
      have := Option.some.inj h
      simp only [Prod.mk.injEq] at this
      exact ⟨this.1.symm, this.2.symm⟩
    have HK := Aside0.mk hk
    clear h hk hc
    go_enter Try.func53, Try.ntmps53
    go_wp2_with fail
    refine (matrix_Check.calls kc A0 c0 l0 _ _ H0.out hc0 HK.out).mono ?_
    rintro e w1 ⟨rfl, hD⟩
    go_wp2
    go_ret2
    exact ⟨_, rfl, Kd.S_nil _ _ _ _ _, hD.below⟩
end Go.Proofs.Ytidogckochpbgaa.A
