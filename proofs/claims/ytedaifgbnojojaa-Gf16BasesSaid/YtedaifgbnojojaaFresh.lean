/- fresh: each list that Basis answers is new memory. -/
import Derived.Test.YtedaifgbnojojaaGrown
namespace Go.Proofs.Ytedaifgbnojojaa.A
open Go.RowKit Go.Deep Go.Proofs.YtedaifgbnojojaaW.PrintWords Go.Proofs.YtedaifgbnojojaaW.PrintLast Go.Proofs.YtedaifgbnojojaaW.PrintMore Go.Proofs.Ytedaifgbnojojaa.R
set_option linter.unusedVariables false
set_option linter.unusedSimpArgs false
set_option maxRecDepth 100000
theorem basis_row (w : World) : Calls Try.prog 28 #[] w fun e w' => ∃ g c, e = .returned (.slice (some ⟨g, 0, none⟩) 16 c) ∧ Row w' .u16 25 w.heap.size (some ⟨g, 0, none⟩, 16, c) gf16_basis.L ∧ Below w.heap.size w w' := by
  refine (gf16_Basis.calls gf16_basis.L w rfl).mono ?_
  rintro e w' ⟨v, rfl, hR, hB⟩
  obtain ⟨g, c, hv, _⟩ := Kd.R_form hR (by decide)
  subst hv
  exact ⟨g, c, rfl, hR, hB⟩
theorem row_up {W : World} {k : IntKind} {e b b' : Nat} {h : Hd} {xs : List Int} (r : Row W k e b h xs) (hb : b' ≤ b) : Row W k e b' h xs := by
  have h0 := Kd.own_of_R (enc := Value.int k) (h1 := fun _ => rfl) r
  refine Kd.R_of_own (enc := Value.int k) (h1 := fun _ => rfl) ⟨h0.1, ?_⟩ (fun _ _ => trivial)
  rcases h0.2 with h | ⟨g, cap, cur, h1, h2, h3⟩
  · exact .inl h
  · exact .inr ⟨g, cap, cur, h1, Nat.le_trans hb h2, h3⟩
set_option maxHeartbeats 4000000 in
theorem fresh_is (w : World) : Calls Try.prog 26 #[] w fun e w' => e = .returned (.bool true) ∧ Below w.heap.size w w' := by
  go_enter Try.func26, Try.ntmps26
  go_wp2_with fail
  (with_reducible refine (basis_row w).mono ?_)
  rintro e w1 ⟨g1, c1, rfl, r1, B1⟩
  have H1 := Aside0.mk (And.intro r1 B1)
  clear r1 B1
  go_wp2_with fail
  (with_reducible refine (basis_row w1).mono ?_)
  rintro e w2 ⟨g2, c2, rfl, r2, B2⟩
  have H2 := Aside0.mk (And.intro r2 B2)
  clear r2 B2
  go_wp2_with fail
  (with_reducible refine (basis_row w2).mono ?_)
  rintro e w3 ⟨g3, c3, rfl, r3, B3⟩
  have H3 := Aside0.mk (And.intro r3 B3)
  clear r3 B3
  go_upto_region 2 with fail
  have hz1 := H1.out.2.size
  have hz2 := H2.out.2.size
  have hz3 := H3.out.2.size
  have a1 := H1.out.1.lt g1 rfl
  have a2 := H2.out.1.lt g2 rfl
  have b1 := H1.out.1.ge g1 rfl
  have b2 := H2.out.1.ge g2 rfl
  have b3 := H3.out.1.ge g3 rfl
  have HB4 := Aside0.mk (((H1.out.2.trans (H2.out.2.mono hz1)).trans (H3.out.2.mono (by omega))).alloc (by omega) (.cells #[.slice (some ⟨g1, 0, none⟩) 16 c1, .slice (some ⟨g2, 0, none⟩) 16 c2, .slice (some ⟨g3, 0, none⟩) 16 c3] 48))
  have hb4 := below_alloc (Below.refl w3.heap.size w3) (.cells #[.slice (some ⟨g1, 0, none⟩) 16 c1, .slice (some ⟨g2, 0, none⟩) 16 c2, .slice (some ⟨g3, 0, none⟩) 16 c3] 48 (0, 0))
  have hn4 := blk_new w3 (.cells #[.slice (some ⟨g1, 0, none⟩) 16 c1, .slice (some ⟨g2, 0, none⟩) 16 c2, .slice (some ⟨g3, 0, none⟩) 16 c3] 48 (0, 0))
  generalize w3.alloc (.cells #[.slice (some ⟨g1, 0, none⟩) 16 c1, .slice (some ⟨g2, 0, none⟩) 16 c2, .slice (some ⟨g3, 0, none⟩) 16 c3] 48 (0, 0)) = w4 at HB4 hb4 hn4 ⊢
  obtain ⟨hs, hhs⟩ : ∃ hs : Nat → Hd, hs = fun i => if i = 0 then (some ⟨g1, 0, none⟩, 16, c1) else if i = 1 then (some ⟨g2, 0, none⟩, 16, c2) else (some ⟨g3, 0, none⟩, 16, c3) := ⟨_, rfl⟩
  have r1 : Row w4 .u16 25 w.heap.size (some ⟨g1, 0, none⟩, 16, c1) gf16_basis.L := (H1.out.1.keep (W' := w2) (fun b hb => H2.out.2.block b (H1.out.1.lt b hb))).keep (W' := w4) (fun b hb => by
    have hb1 := H1.out.1.lt b hb
    exact (hb4.block b (by omega)).trans (H3.out.2.block b (by omega)))
  have r2 : Row w4 .u16 25 w.heap.size (some ⟨g2, 0, none⟩, 16, c2) gf16_basis.L := row_up (H2.out.1.keep (W' := w4) (fun b hb => by
    have hb1 := H2.out.1.lt b hb
    exact (hb4.block b (by omega)).trans (H3.out.2.block b (by omega)))) hz1
  have r3 : Row w4 .u16 25 w.heap.size (some ⟨g3, 0, none⟩, 16, c3) gf16_basis.L := row_up (H3.out.1.keep (W' := w4) (fun b hb => hb4.block b (H3.out.1.lt b hb))) (by omega)
  have hrow : ∀ i, i < 3 → Row w4 .u16 25 w.heap.size (hs i) gf16_basis.L := by
    intro i hi
    rw [hhs]
    rcases (show i = 0 ∨ i = 1 ∨ i = 2 by omega) with rfl | rfl | rfl
    · exact r1
    · exact r2
    · exact r3
  have hown3 : ∀ i b, i < 3 → hown (hs i) = some b → b = (if i = 0 then g1 else if i = 1 then g2 else g3) := by
    intro i b hi h
    rw [hhs] at h
    rcases (show i = 0 ∨ i = 1 ∨ i = 2 by omega) with rfl | rfl | rfl <;> exact (Option.some.inj h).symm
  have hL : Lg w4 .u16 25 w.heap.size 3 hs hs (fun _ => gf16_basis.L) (fun _ => gf16_basis.L) := ⟨hrow, hrow, fun i b hi h1 h2 => ⟨rfl, rfl, Nat.le_refl _, by rw [List.take_length]⟩, fun i j b hi hj h1 h2 => by
    have e1 := hown3 i b hi (h1.elim id id)
    have e2 := hown3 j b hj (h2.elim id id)
    rcases (show i = 0 ∨ i = 1 ∨ i = 2 by omega) with rfl | rfl | rfl <;> rcases (show j = 0 ∨ j = 1 ∨ j = 2 by omega) with rfl | rfl | rfl <;> simp at e1 e2 <;> omega⟩
  have HL := Aside0.mk (And.intro hL (And.intro hn4 hrow))
  have hform : ∀ i, i < 3 → ∃ g c, hs i = (some ⟨g, 0, none⟩, 16, c) := by
    intro i hi
    rw [hhs]
    rcases (show i = 0 ∨ i = 1 ∨ i = 2 by omega) with rfl | rfl | rfl
    · exact ⟨_, _, rfl⟩
    · exact ⟨_, _, rfl⟩
    · exact ⟨_, _, rfl⟩
  have hget : ∀ i, i < 3 → [Value.slice (some ⟨g1, 0, none⟩) 16 c1, .slice (some ⟨g2, 0, none⟩) 16 c2, .slice (some ⟨g3, 0, none⟩) 16 c3][i]? = some (encH (hs i)) := by
    intro i hi
    rw [hhs]
    rcases (show i = 0 ∨ i = 1 ∨ i = 2 by omega) with rfl | rfl | rfl <;> rfl
  have HF := Aside0.mk (And.intro hform hget)
  clear hL hn4 hrow hform hget hown3 r1 r2 r3 hhs hb4 a1 a2 b1 b2 b3
  go_wp2
  go_loopg [11] 3 (fun k v11 wr => ∃ i : Nat, v11 = .int .i64 (i : Int) ∧ i ≤ 3 ∧ k = 3 - i ∧ w4 = wr)
  case atStart => exact ⟨0, rfl, by omega, rfl, rfl⟩
  case round =>
  obtain ⟨i, rfl, hi, rfl, rfl⟩ := hrel
  by_cases hlt : i < 3
  · have hlt0 : decide ((i : Int) < 3) = true := decide_eq_true (by omega)
    obtain ⟨g, c, hg⟩ := HF.out.1 i hlt
    have hcell : w4.cell? ⟨w3.heap.size, i, none⟩ = some (.slice (some ⟨g, 0, none⟩) 16 c) := hdr_cell HL.out.2.1 i (by rw [HF.out.2 i hlt, hg]; rfl)
    have hr := HL.out.2.2 i hlt
    rw [hg] at hr
    have c0 : w4.cell? ⟨g, 0, none⟩ = some (.int .u16 1) := (hr.cell rfl 0 (by decide)).1
    have c15 : w4.cell? ⟨g, 15, none⟩ = some (.int .u16 39198) := (hr.cell rfl 15 (by decide)).1
    have hi2 : (0 : Int) ≤ (i : Int) ∧ (i : Int) < 3 := by omega
    clear hr hg
    go_wp2
    go_roundg (3 - (i + 1))
    case measure => omega
    case rel => exact ⟨i + 1, rfl, by omega, rfl, rfl⟩
  have hlt0 : decide ((i : Int) < 3) = false := decide_eq_false (by omega)
  go_wp2_with fail
  (with_reducible refine (grown_is 3 w3.heap.size 3 w.heap.size hs (fun _ => gf16_basis.L) _ w4 HL.out.2.1 HF.out.2 HL.out.1 (by omega) (fun _ _ => by decide) HB4.out.size).mono ?_)
  rintro e w5 ⟨rfl, B5⟩
  have HB5 := Aside0.mk (HB4.out.trans B5)
  clear B5
  go_wp2_with fail
  (with_reducible refine (basis_row w5).mono ?_)
  rintro e w6 ⟨g6, c6, rfl, r6, B6⟩
  have c0 : w6.cell? ⟨g6, 0, none⟩ = some (.int .u16 1) := (r6.cell rfl 0 (by decide)).1
  have c15 : w6.cell? ⟨g6, 15, none⟩ = some (.int .u16 39198) := (r6.cell rfl 15 (by decide)).1
  have HB6 := Aside0.mk (HB5.out.trans (B6.mono HB5.out.size))
  clear r6 B6
  go_wp2
  go_ret
  exact ⟨rfl, HB6.out⟩
def culletlaw03_fresh.f : Option Bool := some true
theorem culletlaw03_fresh.calls (r : Bool) (w : World) (h : culletlaw03_fresh.f = some r) : Calls Try.prog 26 #[] w fun e w' => e = .returned (.bool r) ∧ Below w.heap.size w w' := by
  obtain rfl := Option.some.inj h
  exact fresh_is w
end Go.Proofs.Ytedaifgbnojojaa.A
