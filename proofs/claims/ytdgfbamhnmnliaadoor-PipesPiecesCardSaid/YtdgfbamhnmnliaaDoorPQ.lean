/- source: of a plan. -/
import Derived.Test.YtdgfbamhnmnliaaDoorPP
namespace Go.Proofs.YtdgfbamhnmnliaaDoor.A
open Go.RowKit Go.Deep Go.Proofs.YtdgfbamhnmnliaaDoor.R Go.Proofs.YtdgfbamhnmnliaaDoorW.PrintWords Go.Proofs.YtdgfbamhnmnliaaDoorW.PrintLast Go.Proofs.YtdgfbamhnmnliaaDoorW.PrintMore
set_option linter.unusedVariables false
set_option linter.unusedSimpArgs false
set_option maxRecDepth 100000
theorem empty_at {k : IntKind} {e b base : Nat} {W : World} (h : W.heap[b]? = some (.cells #[] e (0, 0))) (hb : base ≤ b) : Kd.R (Kd.int k) e W base (fun _ => True) (.slice (some ⟨b, 0, none⟩) 0 0) [] :=
  Kd.R_of_own (enc := Value.int k) (h1 := fun _ => rfl) ⟨rfl, .inr ⟨b, 0, #[], rfl, hb, h, Nat.le_refl _, by simp [maxLen], rfl, rfl⟩⟩ (fun _ _ => trivial)
theorem grow_blk {W w1 : World} {b c t : Nat} {cs : Array Value} (hg : W.grownBy w1 (some c)) (h : W.heap[b]? = some (.cells cs t (0, 0))) (hne : b ≠ c) : w1.heap[b]? = some (.cells cs t (0, 0)) := (hg.block b (blk_lt h) (fun e => hne (Option.some.inj e))).trans h
theorem C_past {k : IntKind} {e e' base c t m : Nat} {ok : Nat → Prop} {xs : List Int} {cs : Array Value} {A : Option Addr} {W W' w1 : World} (h : Kd.R (Kd.int k) e W base ok (.slice A m t) xs) (hg : W'.grownBy w1 (some c)) (hct : W'.heap[c]? = some (.cells cs e' (0, 0))) (hne : e ≠ e') (hW : Below W.heap.size W W') : Kd.C (Kd.int k) w1 A xs.length xs := by
  refine C_other (Kd.R_reads' h).2.2 (fun hn ad had => ?_)
  obtain ⟨gb, cb, hA, hg1, hg2, cells, hcl⟩ := Kd.R_form h hn
  obtain ⟨rfl, -, -⟩ := Value.slice.inj hA
  obtain rfl := Option.some.inj had
  show w1.heap[gb]? = W.heap[gb]?
  have h2 := hW.block gb hg2
  rw [hg.block gb (Nat.lt_of_lt_of_le hg2 hW.size) (fun e2 => ?_), h2]
  obtain rfl := Option.some.inj e2
  rw [h2, hcl] at hct
  injection hct with hct
  injection hct with _ hct
  exact hne hct
theorem two_blk (X : World) (a b : Obj) : ((X.alloc a).alloc b).heap[X.heap.size + 1]? = some b := by
  have := blk_new (X.alloc a) b
  simpa using this
set_option maxHeartbeats 4000000 in
theorem source_is (AD AC : Option Addr) (cD cC : Nat) (D C : List Int) (f code : Int) (w : World) (hD : Kd.C (Kd.int .u8) w AD D.length D) (hC : Kd.C (Kd.int .i64) w AC C.length C) (hlD : D.length ≤ 140737488355328) (hlC : C.length ≤ 17592186044416) :
    Calls Tryd.prog 25 #[.agg #[.slice AD D.length cD, .slice AC C.length cC, .int .i64 f, .int .i64 code]] w fun e w' => ∃ lo g bk vD vC, e = .returned (.pointer (some ⟨g, 0, none⟩)) ∧ w.heap.size ≤ lo ∧ Src w' lo w'.heap.size g bk vD vC D C f code 0 0 ∧ Below w.heap.size w w' := by
  have HD := Aside0.mk hD
  have HC := Aside0.mk hC
  have HL := Aside0.mk (And.intro hlD hlC)
  clear hD hC hlD hlC
  go_enter Tryd.func25, Tryd.ntmps25
  go_wp2
  have hb := blk_new w (.cells #[.slice AD D.length cD, .slice AC C.length cC, .int .i64 f, .int .i64 code] 25 (0, 0))
  have hB0 := below_alloc (Below.refl w.heap.size w) (.cells #[.slice AD D.length cD, .slice AC C.length cC, .int .i64 f, .int .i64 code] 25 (0, 0))
  generalize w.alloc (.cells #[.slice AD D.length cD, .slice AC C.length cC, .int .i64 f, .int .i64 code] 25 (0, 0)) = w1 at hb hB0 ⊢
  have HB0 := Aside0.mk hB0
  have K := Aside0.mk (And.intro (cell_of_row w1 _ 0 _ 25 (0, 0) hb) (And.intro (cell_of_row w1 _ 1 _ 25 (0, 0) hb) (And.intro (cell_of_row w1 _ 2 _ 25 (0, 0) hb) (cell_of_row w1 _ 3 _ 25 (0, 0) hb))))
  simp only [List.getElem?_toArray, List.getElem?_cons_succ, List.getElem?_cons_zero] at K
  have HD1 := Aside0.mk (Kd.C_below HD.out hB0)
  have HC1 := Aside0.mk (Kd.C_below HC.out hB0)
  have hBr := Below.refl w1.heap.size w1
  clear hb hB0
  go_region_held3 (fun w' => w'.cell? ⟨w.heap.size, 0, none⟩ = some (.slice AD D.length cD) ∧ w'.cell? ⟨w.heap.size, 1, none⟩ = some (.slice AC C.length cC) ∧ w'.cell? ⟨w.heap.size, 2, none⟩ = some (.int .i64 f) ∧ w'.cell? ⟨w.heap.size, 3, none⟩ = some (.int .i64 code) ∧ Below w1.heap.size w1 w')
    (first
      | (with_reducible assumption)
      | (refine (fun hN => ⟨pw_cell_below hN K.out.1, pw_cell_below hN K.out.2.1, pw_cell_below hN K.out.2.2.1, pw_cell_below hN K.out.2.2.2, hN⟩) ?_; (repeat (first | (with_reducible assumption) | (with_reducible apply below_drew) | (with_reducible apply below_alloc) | exact hbC.trans (hB9.mono hbC.size) | exact hbD.trans (hB9.mono hbD.size))))
      | fail)
    (first
      | (go_at_call 10; (first
          | (have hCD : Kd.C (Kd.int .u8) wC XD D.length D := C_past hRD hgC (by (first | exact blk_new _ _ | exact blk_alloc (blk_new _ _) _ | exact grow_blk hgD (blk_new _ _) (by simp) | exact grow_blk hgD (blk_alloc (blk_new _ _) _) (by simp) | exact grow_blk hgD (two_blk _ _ _) (by simp) | exact (two_blk _ _ _))) (by decide) (by (first | exact Below.refl _ _ | exact below_alloc (Below.refl _ _) _)); have N := newSource XD XC yD yC D C f code wC hCD (Kd.R_reads' hRC).2.2 (by have := HL.out; omega) (by have := HL.out; omega); with_reducible refine N.mono ?_)
          | (have hCC : Kd.C (Kd.int .i64) wD XC C.length C := C_past hRC hgD (by (first | exact blk_new _ _ | exact blk_alloc (blk_new _ _) _ | exact grow_blk hgC (blk_new _ _) (by simp) | exact grow_blk hgC (blk_alloc (blk_new _ _) _) (by simp) | exact grow_blk hgC (two_blk _ _ _) (by simp) | exact (two_blk _ _ _))) (by decide) (by (first | exact Below.refl _ _ | exact below_alloc (Below.refl _ _) _)); have N := newSource XD XC yD yC D C f code wD (Kd.R_reads' hRD).2.2 hCC (by have := HL.out; omega) (by have := HL.out; omega); with_reducible refine N.mono ?_)); rintro e w9 ⟨g, bk, vD, vC, rfl, hSrc, hB9⟩)
      | (have hBel := (‹_ ∧ _ ∧ _ ∧ _ ∧ Below w1.heap.size w1 _›).2.2.2.2; (refine held_of (by rfl) (Kd.R_append_rows_step (Kd.int .u8) w1.heap.size ?_ (.tmp 3) (.tmp 5) 22 5 (.int .u8 0) 1 ?_ Tryd.underlying22 inf5 rfl (by decide) (by decide) ?_ [] D AD D.length cD (fun _ => True) (fun _ => False) ?_ ?_
              ?_ (Kd.C_below HD1.out hBel) (fun x cs h => h) (fun _ h => h.elim) (fun _ _ => trivial) hBel (Below.size hBel) (by show (0 + D.length) * 1 ≤ _; have := HL.out.1; omega) ?_)); rfl; rfl; rotate_left; rfl; rfl; (first
                | exact empty_at (blk_new _ _) (by simp)
                | exact empty_at (blk_alloc (blk_new _ _) _) (by simp)
                | exact empty_at (blk_new _ _) (by have := hbC.size; simp; omega)
                | exact empty_at (grow_blk hgC (blk_new _ _) (by simp)) (by simp)
                | exact empty_at (grow_blk hgC (blk_alloc (blk_new _ _) _) (by simp)) (by simp)
                | exact empty_at (grow_blk hgC (two_blk _ _ _) (by simp)) (by simp)
                | exact empty_at (two_blk _ _ _) (by simp)); intro vD wD hRD hbD hgD hatD; rw [List.nil_append] at hRD; obtain ⟨XD, yD, rfl⟩ := Kd.R_slice hRD)
      | (have hBel := (‹_ ∧ _ ∧ _ ∧ _ ∧ Below w1.heap.size w1 _›).2.2.2.2; (refine held_of (by rfl) (Kd.R_append_rows_step (Kd.int .i64) w1.heap.size ?_ (.tmp 7) (.tmp 9) 23 3 (.int .i64 0) 8 ?_ Tryd.underlying23 inf3 rfl (by decide) (by decide) ?_ [] C AC C.length cC (fun _ => True) (fun _ => False) ?_ ?_
              ?_ (Kd.C_below HC1.out hBel) (fun x cs h => h) (fun _ h => h.elim) (fun _ _ => trivial) hBel (Below.size hBel) (by show (0 + C.length) * 8 ≤ _; have := HL.out.2; omega) ?_)); rfl; rfl; rotate_left; rfl; rfl; (first
                | exact empty_at (blk_new _ _) (by simp)
                | exact empty_at (blk_alloc (blk_new _ _) _) (by simp)
                | exact empty_at (blk_new _ _) (by have := hbD.size; simp; omega)
                | exact empty_at (grow_blk hgD (blk_new _ _) (by simp)) (by simp)
                | exact empty_at (grow_blk hgD (blk_alloc (blk_new _ _) _) (by simp)) (by simp)
                | exact empty_at (grow_blk hgD (two_blk _ _ _) (by simp)) (by simp)
                | exact empty_at (two_blk _ _ _) (by simp)); intro vC wC hRC hbC hgC hatC; rw [List.nil_append] at hRC; obtain ⟨XC, yC, rfl⟩ := Kd.R_slice hRC))
  all_goals
    go_wp2
    go_ret
    first
      | exact ⟨_, _, _, _, _, rfl, Nat.le_trans HB0.out.size hbC.size, hSrc, HB0.out.trans ((hbC.trans (hB9.mono hbC.size)).mono HB0.out.size)⟩
      | exact ⟨_, _, _, _, _, rfl, Nat.le_trans HB0.out.size hbD.size, hSrc, HB0.out.trans ((hbD.trans (hB9.mono hbD.size)).mono HB0.out.size)⟩
end Go.Proofs.YtdgfbamhnmnliaaDoor.A
