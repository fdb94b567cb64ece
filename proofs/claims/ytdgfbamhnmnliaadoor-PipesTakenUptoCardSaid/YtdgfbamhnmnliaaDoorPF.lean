/- PipesNilInside and PipesNil: the walks. -/
import Derived.Test.YtdgfbamhnmnliaaDoorPE
namespace Go.Proofs.YtdgfbamhnmnliaaDoor.A
open Go.RowKit Go.Deep Go.Proofs.YtdgfbamhnmnliaaDoor.R Go.Proofs.YtdgfbamhnmnliaaDoorW.PrintWords Go.Proofs.YtdgfbamhnmnliaaDoorW.PrintLast Go.Proofs.YtdgfbamhnmnliaaDoorW.PrintMore
set_option linter.unusedVariables false
set_option linter.unusedSimpArgs false
set_option maxRecDepth 100000
theorem empty_R (k : IntKind) (e : Nat) (w : World) {base : Nat} {ok : Nat → Prop} (hb : base ≤ w.heap.size) (hok : ok w.heap.size) : Kd.R (Kd.int k) e (w.alloc (.cells #[] e)) base ok (.slice (some ⟨w.heap.size, 0, none⟩) 0 0) [] :=
  Kd.R_of_own (enc := Value.int k) (h1 := fun _ => rfl) (World.ownsRow_made w #[] 0 hb (by simp [maxLen]) rfl) (fun b hb' => by
    have : w.heap.size = b := by simpa [Value.ownBlock] using hb'
    exact this ▸ hok)
set_option maxHeartbeats 400000 in
theorem nilInside (A0 : Option Addr) (c0 : Nat) (P : List Int) (w : World) (hr : Kd.C (Kd.int .u8) w A0 P.length P) (hc : P.length ≤ c0) (hl : P.length ≤ 140737488351232) :
    Calls Tryd.prog 4 #[.slice A0 P.length c0] w fun e w' => e = .returned (.bool true) ∧ Below w.heap.size w w' := by
  have HR := Aside0.mk hr
  have HL := Aside0.mk (And.intro hc hl)
  clear hr hc hl
  go_enter Tryd.func4, Tryd.ntmps4
  go_wp2_with fail
  (with_reducible refine (awake w).mono ?_)
  rintro e w1 ⟨rfl, hB⟩
  have HB1 := Aside0.mk hB
  clear hB
  go_wp2_with (first
    | (refine Kd.R_append_row (w0 := w1.alloc (.cells #[] 5)) (Value.int .u8) 0 w1.heap.size rfl (.tmp 9) (.tmp 10) 22 5 (.int .u8 0) 1 rfl Tryd.underlying22 inf5 rfl (by decide) (.slice (some ⟨w1.heap.size, 0, none⟩) 0 0) [] P A0 P.length c0 (fun _ => True) rfl rfl (fun _ _ => trivial) (empty_R .u8 5 w1 (Nat.le_refl _) trivial) (Kd.C_alloc (Kd.C_below HR.out HB1.out) _) (Below.refl _ _) (by simp) (by show (0 + P.length) * 1 ≤ _; have := HL.out; omega) ?_
       intro v1 w2 hR hb hg hat
       rw [List.nil_append] at hR
       obtain ⟨A1, c1, rfl⟩ := Kd.R_slice hR
       have HR2 := Aside0.mk hR
       have HB2 := Aside0.mk (HB1.out.trans ((below_alloc (Below.refl _ _) _ |>.trans (hb.mono (Nat.le_refl _))).mono HB1.out.size))
       clear hR hb hg hat))
  by_cases h0 : P.length = 0
  · have hP : P = [] := List.eq_nil_of_length_eq_zero h0
    subst hP
    refine (full_none A1 c1 w2 (.pointer none)).mono ?_
    rintro e w3 ⟨rfl, rfl⟩
    go_wp2_with fail
    go_ret
    exact ⟨rfl, HB2.out⟩
  · (with_reducible refine (full_nil _ _ _ _ (by have := HL.out; omega) (by omega)).mono ?_)
    rintro e w3 ⟨rfl, rfl⟩
    have hl0 : ((P.length : Int) == 0) = false := beq_eq_false_iff_ne.2 (by omega)
    go_wp2_with fail
    (with_reducible refine (is_nilErr _).mono ?_)
    rintro e w4 ⟨rfl, rfl⟩
    go_wp2_with fail
    have SY := Aside0.mk (same_yes A1 A0 c1 c0 P w2 (by have := HL.out; omega) (Kd.R_reads' HR2.out).2.2 (Kd.R_reads' HR2.out).2.1 (Kd.C_below HR.out HB2.out) HL.out.1)
    (with_reducible refine SY.out.mono ?_)
    clear SY
    rintro e w5 ⟨rfl, m5, rfl⟩
    go_wp2_with fail
    go_ret
    exact ⟨rfl, pw_below_drewN HB2.out m5⟩
set_option maxHeartbeats 400000 in
theorem nilLaw (A0 : Option Addr) (c0 : Nat) (P : List Int) (w : World) (hr : Kd.C (Kd.int .u8) w A0 P.length P) (hc : P.length ≤ c0) (hl : P.length ≤ 140737488351232) :
    Calls Tryd.prog 7 #[.slice A0 P.length c0] w fun e w' => e = .returned (.bool true) ∧ Below w.heap.size w w' := by
  have HR := Aside0.mk hr
  have HL := Aside0.mk (And.intro hc hl)
  clear hr hc hl
  go_enter Tryd.func7, Tryd.ntmps7
  go_wp2_with fail
  (with_reducible refine (awake w).mono ?_)
  rintro e w1 ⟨rfl, hB⟩
  have HB1 := Aside0.mk hB
  clear hB
  go_wp2_with (first
    | (refine Kd.R_append_row (w0 := w1.alloc (.cells #[] 5)) (Value.int .u8) 0 w1.heap.size rfl (.tmp 12) (.tmp 13) 22 5 (.int .u8 0) 1 rfl Tryd.underlying22 inf5 rfl (by decide) (.slice (some ⟨w1.heap.size, 0, none⟩) 0 0) [] P A0 P.length c0 (fun _ => True) rfl rfl (fun _ _ => trivial) (empty_R .u8 5 w1 (Nat.le_refl _) trivial) (Kd.C_alloc (Kd.C_below HR.out HB1.out) _) (Below.refl _ _) (by simp) (by show (0 + P.length) * 1 ≤ _; have := HL.out; omega) ?_
       intro v1 w2 hR hb hg hat
       rw [List.nil_append] at hR
       obtain ⟨A1, c1, rfl⟩ := Kd.R_slice hR
       have HR2 := Aside0.mk hR
       have HB2 := Aside0.mk (HB1.out.trans ((below_alloc (Below.refl _ _) _ |>.trans (hb.mono (Nat.le_refl _))).mono HB1.out.size))
       clear hR hb hg hat)
    | (go_at_call 12; refine (read_nil _ _ _ _).mono ?_; rintro e w' ⟨rfl, rfl⟩)
    | (go_at_call 27; refine (write_nil _ _ _ _).mono ?_; rintro e w' ⟨rfl, rfl⟩)
    | (go_at_call 18; refine (is_nilErr _).mono ?_; rintro e w' ⟨rfl, rfl⟩)
    | (go_at_call 26; refine (taken_nil _).mono ?_; rintro e w' ⟨rfl, rfl⟩)
    | (go_at_call 15; refine (fail_nil _).mono ?_; rintro e w' ⟨rfl, rfl⟩)
    | (go_at_call 22; refine (sfail_nil _).mono ?_; rintro e w' ⟨rfl, rfl⟩)
    | (go_at_call 23; refine (bytes_nil _).mono ?_; rintro e w' ⟨rfl, rfl⟩)
    | (go_at_call 17; refine (full_nilr _ _ _ _).mono ?_; rintro e w' ⟨rfl, rfl⟩)
    | (go_at_call 20; refine (put_nilw _ _ _ _).mono ?_; rintro e w' ⟨rfl, rfl⟩)
    | (go_at_call 16; refine (same_yes A1 A0 c1 c0 P w2 (by have := HL.out; omega) (Kd.R_reads' HR2.out).2.2 (Kd.R_reads' HR2.out).2.1 (Kd.C_below HR.out HB2.out) HL.out.1).mono ?_; rintro e w' ⟨rfl, m5, rfl⟩))
  go_ret
  exact ⟨rfl, pw_below_drewN HB2.out m5⟩
end Go.Proofs.YtdgfbamhnmnliaaDoor.A
