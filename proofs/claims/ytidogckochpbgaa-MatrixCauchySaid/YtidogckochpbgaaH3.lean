import Derived.Test.YtidogckochpbgaaH2
import Derived.Test.YtidogckochpbgaaL2
namespace Go.Proofs.Ytidogckochpbgaa.A
open Go.RowKit Go.Deep Go.Proofs.YtidogckochpbgaaW.PrintWords Go.Proofs.YtidogckochpbgaaW.PrintLast Go.Proofs.YtidogckochpbgaaW.PrintMore Go.Proofs.Ytidogckochpbgaa.R
set_option linter.unusedVariables false
set_option linter.unusedSimpArgs false
theorem drawn_below {w w1 : World} (h : Drawn0 w w1) : Below w.heap.size w w1 := h.below
theorem pivs_R {W : World} {base base' : Nat} {pv : Value} {ps : List Nat} (h : W.ownsRow base 3 1 pv ps.length (ps.map fun (p : Nat) => Value.int .i64 (p : Int))) (hb : base' ≤ base) : Kd.R (Kd.int .i64) 3 W base' (fun _ => True) pv (ps.map fun (p : Nat) => (p : Int)) := by
  refine Kd.R_of_own ?_ (fun _ _ => trivial)
  have := own_weaken h hb
  rw [List.length_map]
  unfold encs
  rw [List.map_map]
  exact this
/-- Reduce. -/
def matrix_Reduce.f (l : List (List Int)) : Option (List (List Int) × List Int × Int) :=
  if chk l = true then (if byt l = true then some (mt l.length (wid l) (LA.gj l.length (toM l) (wid l)).1, (LA.gj l.length (toM l) (wid l)).2.1.map (fun (p : Nat) => (p : Int)), 0) else none) else some ([], [], 100)
set_option maxHeartbeats 2000000 in
set_option maxRecDepth 100000 in
theorem matrix_Reduce.calls (A0 : Option Addr) (c0 : Nat) (l0 : List (List Int)) (r1 : List (List Int)) (r2 : List Int) (r3 : Int) (w : World) (hr0 : Kd.C (Kd.slice 5 (Kd.int .u8)) w A0 l0.length l0) (hc0 : l0.length ≤ c0) (h : matrix_Reduce.f l0 = some (r1, r2, r3)) :
    Calls Try.prog 23 #[.slice A0 l0.length c0] w fun e w' => ∃ v0_ v1_ : Value, e = .returned (.tuple #[v0_, v1_, .int .i64 r3]) ∧ Kd.S (Kd.slice 5 (Kd.int .u8)) 31 w' w.heap.size (fun _ => True) v0_ r1 ∧ Kd.R (Kd.int .i64) 3 w' w.heap.size (fun _ => True) v1_ r2 ∧ Below w.heap.size w w' := by
  obtain ⟨kc, hk⟩ := (Check_any l0).rounds
  unfold matrix_Reduce.f at h
  by_cases hc : chk l0 = true
  · rw [if_pos hc] at h hk
    by_cases hb : byt l0 = true
    · rw [if_pos hb] at h
      obtain ⟨hm1, hm2, hw1, hw2, -⟩ := chk_iff.1 hc
      have hr1 := hr0
      have hl := toM_eq hc hb
      rw [hl] at hr1
      obtain ⟨ad, rfl, hR⟩ := rdm_of_C (by omega) (by omega) hr1
      have HR := Aside0.mk hR
      clear hR hr1 hl
      have he := Aside0.mk h
      have H := Aside0.mk hr0
      have HK := Aside0.mk hk
      have HC := Aside0.mk hc
      have HB := Aside0.mk hb
      clear h hr0 hk hc hb
      go_enter Try.func23, Try.ntmps23
      go_wp2_with (first | (go_at_call 14; refine (matrix_Check.calls kc _ c0 l0 _ _ H.out hc0 HK.out).mono ?_; rintro e w1 ⟨rfl, hD⟩))
      obtain ⟨nd, rfl⟩ := hD.out
      refine (copied_grid l0.length (wid l0) hm1 (by omega) (by omega) ad c0 (toM l0) _ (HR.out.below hD.below)).mono ?_
      rintro e w2 ⟨b, rfl, hG, hbl⟩
      have HG : Aside0 (Grid w2 31 5 w.heap.size w.heap.size l0.length (wid l0) b (toM l0)) := ⟨hG⟩
      have hd0 := HG.out.hd.cell (i := 0) (by omega)
      have hbl2 := hD.below.trans hbl
      clear hG hbl hD
      go_wp2_with fail
      refine (reduce_grid l0.length (wid l0) (wid l0) w.heap.size hm1 (by omega) (by omega) (Nat.le_refl _) w.heap.size b (toM l0) w2 hbl2.size HG.out).mono ?_
      rintro e w3 ⟨pv, b3, rfl, hG3, hown, hb3⟩
      have hbl3 := hbl2.trans hb3
      have HG3 := Aside0.mk hG3
      have HO := Aside0.mk hown
      have hs2 := hbl2.size
      clear HG hd0 hG3 hown hb3 hbl2
      go_wp2
      go_ret3
      have he' := Option.some.inj he.out
      simp only [Prod.mk.injEq] at he'
      obtain ⟨rfl, rfl, rfl⟩ := he'
      refine ⟨_, pv, rfl, HG3.out.toS (by unfold maxLen; omega) (by unfold maxLen; omega) trivial (fun _ _ => trivial), pivs_R HO.out hs2, hbl3⟩
    · rw [if_neg hb] at h; exact absurd h (by simp)
  · rw [if_neg hc] at h hk
    obtain ⟨rfl, rfl, rfl⟩ : r1 = [] ∧ r2 = [] ∧ r3 = 100 := by
      have := Option.some.inj h
      simp only [Prod.mk.injEq] at this
      exact ⟨this.1.symm, this.2.1.symm, this.2.2.symm⟩
    have H := Aside0.mk hr0
    have HK := Aside0.mk hk
    clear h hr0 hk hc
    go_enter Try.func23, Try.ntmps23
    go_wp2_with (first | (go_at_call 14; refine (matrix_Check.calls kc _ c0 l0 _ _ H.out hc0 HK.out).mono ?_; rintro e w1 ⟨rfl, hD⟩))
    go_ret3
    exact ⟨_, _, rfl, Kd.S_nil _ _ _ _ _, Kd.R_nil _ _ _ _ _, hD.below⟩
end Go.Proofs.Ytidogckochpbgaa.A
