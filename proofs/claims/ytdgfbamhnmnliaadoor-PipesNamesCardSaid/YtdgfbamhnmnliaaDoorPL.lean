/- PipesNames: the walk. -/
import Derived.Test.YtdgfbamhnmnliaaDoorPK
namespace Go.Proofs.YtdgfbamhnmnliaaDoor.A
open Go.RowKit Go.Deep Go.Proofs.YtdgfbamhnmnliaaDoor.R Go.Proofs.YtdgfbamhnmnliaaDoorW.PrintWords Go.Proofs.YtdgfbamhnmnliaaDoorW.PrintLast Go.Proofs.YtdgfbamhnmnliaaDoorW.PrintMore
set_option linter.unusedVariables false
set_option linter.unusedSimpArgs false
set_option maxRecDepth 100000
theorem tab_below {W W' : World} {name : String} {k : IntKind} {zs : List Int} (h : Lib.TabIs Tryd.prog W name k zs) (hb : Below W.heap.size W W') : Lib.TabIs Tryd.prog W' name k zs := by
  unfold Lib.TabIs World.var? at h ⊢
  cases hg : Tryd.prog.globalNamed name with
  | none => simp [hg] at h
  | some g =>
    simp only [hg, Option.bind_some] at h ⊢
    have hlt : g < W.heap.size := by
      rcases Nat.lt_or_ge g W.heap.size with h' | h'
      · exact h'
      · simp [Array.getElem?_eq_none h'] at h
    rw [hb.block g hlt]
    exact h
theorem Src.below {W W' : World} {lo hi g bk : Nat} {vD vC : Value} {D C : List Int} {f code pl tu : Int} (h : Src W lo hi g bk vD vC D C f code pl tu) (hb : Below W.heap.size W W') : Src W' lo hi g bk vD vC D C f code pl tu :=
  h.keep hb.size (fun k _ h2 => hb.block k (Nat.lt_of_lt_of_le h2 h.top))
set_option maxHeartbeats 4000000 in
theorem namesLaw (ae : Addr) (w : World) (hE : w.cell? ⟨0, 0, none⟩ = some (.iface 109 (.pointer (some ae)))) (hs : w.cell? ae = some (.string ⟨#[101, 110, 100]⟩)) (htab : Lib.TabIs Tryd.prog w "internal/strconv.uint64pow10" .u64 Lib.pow10Tab) :
    Calls Tryd.prog 8 #[] w fun e w' => e = .returned (.bool true) ∧ Below w.heap.size w w' := by
  have HE := Aside0.mk (And.intro hE (And.intro hs htab))
  clear hE hs htab
  go_enter Tryd.func8, Tryd.ntmps8
  go_wp2_with fail
  have hb := blk_new w (.cells #[.int .i64 (-7)] 61 (0, 0))
  have hB0 := below_alloc (Below.refl w.heap.size w) (.cells #[.int .i64 (-7)] 61 (0, 0))
  generalize w.alloc (.cells #[.int .i64 (-7)] 61 (0, 0)) = w0 at hb hB0 ⊢
  have H0 := Aside0.mk (And.intro hb hB0)
  clear hb hB0
  have N1 := Aside0.mk (newSource none none 0 0 [] [] 0 3 w0 (Kd.C_nil _ _) (Kd.C_nil _ _) (by decide) (by decide))
  simp only [List.length_nil] at N1
  (with_reducible refine N1.out.mono ?_)
  clear N1
  rintro e w1 ⟨g1, b1, vD1, vC1, rfl, hS, hB⟩
  have H1 := Aside0.mk (And.intro hS hB)
  clear hS hB
  go_wp2_with fail
  (with_reducible refine (newSink 0 3 w1).mono ?_)
  rintro e w2 ⟨g2, b2, rfl, hS, hB⟩
  have H2 := Aside0.mk (And.intro hS hB)
  clear hS hB
  go_wp2_with fail
  have N3 := Aside0.mk (newSource none none 0 0 [] [] 0 3 w2 (Kd.C_nil _ _) (Kd.C_nil _ _) (by decide) (by decide))
  simp only [List.length_nil] at N3
  (with_reducible refine N3.out.mono ?_)
  clear N3
  rintro e w3 ⟨g3, b3, vD3, vC3, rfl, hS, hB⟩
  have H3 := Aside0.mk (And.intro hS hB)
  clear hS hB
  have S1 := Aside0.mk ((H1.out.1.below H2.out.2).below H3.out.2)
  have S2 := Aside0.mk (H2.out.1.below H3.out.2)
  go_wp2_with fail
  (with_reducible refine (fail_is _ _ g1 b1 _ _ _ _ 0 3 _ _ w3 S1.out (by decide)).mono ?_)
  rintro e w' ⟨rfl, rfl⟩
  go_wp2_with fail
  (with_reducible refine (sfail_is _ g2 b2 _ _ 0 3 w3 S2.out (by decide)).mono ?_)
  rintro e w' ⟨rfl, rfl⟩
  go_wp2_with fail
  (with_reducible refine (fail_is _ _ g3 b3 _ _ _ _ 0 3 _ _ w3 H3.out.1 (by decide)).mono ?_)
  rintro e w' ⟨rfl, rfl⟩
  go_upto_region 11 with fail
  have hb4 := blk_new w3 (.cells #[.iface 59 (.pointer (some ⟨b1, 0, none⟩)), .iface 59 (.pointer (some ⟨b2, 0, none⟩)), .iface 59 (.pointer (some ⟨b3, 0, none⟩))] 34 (0, 0))
  have hB4 := below_alloc (Below.refl w3.heap.size w3) (.cells #[.iface 59 (.pointer (some ⟨b1, 0, none⟩)), .iface 59 (.pointer (some ⟨b2, 0, none⟩)), .iface 59 (.pointer (some ⟨b3, 0, none⟩))] 34 (0, 0))
  generalize w3.alloc (.cells #[.iface 59 (.pointer (some ⟨b1, 0, none⟩)), .iface 59 (.pointer (some ⟨b2, 0, none⟩)), .iface 59 (.pointer (some ⟨b3, 0, none⟩))] 34 (0, 0)) = w4 at hb4 hB4 ⊢
  have C4 := Aside0.mk (And.intro (cell_of_row w4 w3.heap.size 0 _ 34 (0, 0) hb4) (And.intro (cell_of_row w4 w3.heap.size 1 _ 34 (0, 0) hb4) (cell_of_row w4 w3.heap.size 2 _ 34 (0, 0) hb4)))
  simp only [List.getElem?_toArray, List.getElem?_cons_succ, List.getElem?_cons_zero] at C4
  have Q4 := Aside0.mk (And.intro (blk_below S1.out.brk hB4) (And.intro (blk_below S2.out.brk hB4) (blk_below H3.out.1.brk hB4)))
  have HN := Aside0.mk (show b1 < b2 ∧ b2 < b3 from ⟨Nat.lt_of_lt_of_le H1.out.1.b2 H2.out.1.b1, Nat.lt_of_lt_of_le (blk_lt H2.out.1.brk) H3.out.1.b1⟩)
  have T4 := Aside0.mk (And.intro (S1.out.below hB4) (And.intro (S2.out.below hB4) (H3.out.1.below hB4)))
  have hwz : w.heap.size ≤ w0.heap.size ∧ w0.heap.size ≤ w1.heap.size ∧ w1.heap.size ≤ w2.heap.size ∧ w2.heap.size ≤ w3.heap.size := ⟨H0.out.2.size, H1.out.2.size, H2.out.2.size, H3.out.2.size⟩
  have M4 := Aside0.mk (blk_below (blk_below (blk_below (blk_below H0.out.1 H1.out.2) H2.out.2) H3.out.2) hB4)
  have W4 := Aside0.mk (show Below w.heap.size w w4 from (((H0.out.2.trans (H1.out.2.mono (by omega))).trans (H2.out.2.mono (by omega))).trans (H3.out.2.mono (by omega))).trans (hB4.mono (by omega)))
  clear hb4 hB4 hwz
  go_loopg [7] 3 (fun k v7 wr => ((k = 3 ∧ v7 = .int .i64 0) ∨ (k = 2 ∧ v7 = .int .i64 1) ∨ (k = 1 ∧ v7 = .int .i64 2) ∨ (k = 0 ∧ v7 = .int .i64 3)) ∧ Below w4.heap.size w4 wr)
  case atStart => exact ⟨.inl ⟨rfl, rfl⟩, Below.refl _ _⟩
  case round =>
  obtain ⟨hv, hBr⟩ := hrel
  have x1 : IntKind.i64.wrap 1 = 1 := by decide
  have x2 : IntKind.i64.wrap 2 = 2 := by decide
  have x3 : IntKind.i64.wrap 3 = 3 := by decide
  have t1 : Int.tmod 1 3 = 1 := by decide
  have t2 : Int.tmod 2 3 = 2 := by decide
  have t3 : Int.tmod 3 3 = 0 := by decide
  obtain ⟨rfl, rfl⟩ | ⟨rfl, rfl⟩ | ⟨rfl, rfl⟩ | ⟨rfl, rfl⟩ := hv
  · go_wp2
    go_region_held3 (fun w' => w'.cell? ⟨w3.heap.size, 0, none⟩ = some (.iface 59 (.pointer (some ⟨b1, 0, none⟩))) ∧ w'.cell? ⟨w3.heap.size, 1, none⟩ = some (.iface 59 (.pointer (some ⟨b2, 0, none⟩))) ∧ w'.cell? ⟨w3.heap.size, 2, none⟩ = some (.iface 59 (.pointer (some ⟨b3, 0, none⟩))) ∧ Below w4.heap.size w4 w')
        (first
          | (with_reducible assumption)
          | (refine (fun hN => ⟨pw_cell_below hN C4.out.1, pw_cell_below hN C4.out.2.1, pw_cell_below hN C4.out.2.2, hN⟩) ?_; (first | (with_reducible assumption) | (with_reducible exact below_drew hBr) | exact ((‹_ ∧ _ ∧ _ ∧ Below w4.heap.size w4 _›).2.2.2).trans (hB2.mono ((‹_ ∧ _ ∧ _ ∧ Below w4.heap.size w4 _›).2.2.2).size)))
          | fail)
        (first
          | (go_at_call 28; have hBel := (‹_ ∧ _ ∧ _ ∧ Below w4.heap.size w4 _›).2.2.2; with_reducible refine (broken3 b1 _ (blk_below Q4.out.1 hBel)).mono ?_; rintro e w' ⟨rfl, hB2⟩)
          | (go_at_call 21; have hBel := (‹_ ∧ _ ∧ _ ∧ Below w4.heap.size w4 _›).2.2.2; with_reducible refine (own_other ⟨b1, 0, none⟩ ⟨b2, 0, none⟩ _ _ _ _ _ (fun e => by injection e with e; have := HN.out; omega) (blk_below Q4.out.1 hBel) (blk_below Q4.out.2.1 hBel)).mono ?_; rintro e w' ⟨rfl, rfl⟩))
    go_wp2
    go_roundg 2
    case measure => omega
    case rel => exact ⟨.inr (.inl ⟨rfl, rfl⟩), (‹_ ∧ _ ∧ _ ∧ Below w4.heap.size w4 _›).2.2.2⟩
  · go_wp2
    go_region_held3 (fun w' => w'.cell? ⟨w3.heap.size, 0, none⟩ = some (.iface 59 (.pointer (some ⟨b1, 0, none⟩))) ∧ w'.cell? ⟨w3.heap.size, 1, none⟩ = some (.iface 59 (.pointer (some ⟨b2, 0, none⟩))) ∧ w'.cell? ⟨w3.heap.size, 2, none⟩ = some (.iface 59 (.pointer (some ⟨b3, 0, none⟩))) ∧ Below w4.heap.size w4 w')
        (first
          | (with_reducible assumption)
          | (refine (fun hN => ⟨pw_cell_below hN C4.out.1, pw_cell_below hN C4.out.2.1, pw_cell_below hN C4.out.2.2, hN⟩) ?_; (first | (with_reducible assumption) | (with_reducible exact below_drew hBr) | exact ((‹_ ∧ _ ∧ _ ∧ Below w4.heap.size w4 _›).2.2.2).trans (hB2.mono ((‹_ ∧ _ ∧ _ ∧ Below w4.heap.size w4 _›).2.2.2).size)))
          | fail)
        (first
          | (go_at_call 28; have hBel := (‹_ ∧ _ ∧ _ ∧ Below w4.heap.size w4 _›).2.2.2; with_reducible refine (broken3 b2 _ (blk_below Q4.out.2.1 hBel)).mono ?_; rintro e w' ⟨rfl, hB2⟩)
          | (go_at_call 21; have hBel := (‹_ ∧ _ ∧ _ ∧ Below w4.heap.size w4 _›).2.2.2; with_reducible refine (own_other ⟨b2, 0, none⟩ ⟨b3, 0, none⟩ _ _ _ _ _ (fun e => by injection e with e; have := HN.out; omega) (blk_below Q4.out.2.1 hBel) (blk_below Q4.out.2.2 hBel)).mono ?_; rintro e w' ⟨rfl, rfl⟩))
    go_wp2
    go_roundg 1
    case measure => omega
    case rel => exact ⟨.inr (.inr (.inl ⟨rfl, rfl⟩)), (‹_ ∧ _ ∧ _ ∧ Below w4.heap.size w4 _›).2.2.2⟩
  · go_wp2
    go_region_held3 (fun w' => w'.cell? ⟨w3.heap.size, 0, none⟩ = some (.iface 59 (.pointer (some ⟨b1, 0, none⟩))) ∧ w'.cell? ⟨w3.heap.size, 1, none⟩ = some (.iface 59 (.pointer (some ⟨b2, 0, none⟩))) ∧ w'.cell? ⟨w3.heap.size, 2, none⟩ = some (.iface 59 (.pointer (some ⟨b3, 0, none⟩))) ∧ Below w4.heap.size w4 w')
        (first
          | (with_reducible assumption)
          | (refine (fun hN => ⟨pw_cell_below hN C4.out.1, pw_cell_below hN C4.out.2.1, pw_cell_below hN C4.out.2.2, hN⟩) ?_; (first | (with_reducible assumption) | (with_reducible exact below_drew hBr) | exact ((‹_ ∧ _ ∧ _ ∧ Below w4.heap.size w4 _›).2.2.2).trans (hB2.mono ((‹_ ∧ _ ∧ _ ∧ Below w4.heap.size w4 _›).2.2.2).size)))
          | fail)
        (first
          | (go_at_call 28; have hBel := (‹_ ∧ _ ∧ _ ∧ Below w4.heap.size w4 _›).2.2.2; with_reducible refine (broken3 b3 _ (blk_below Q4.out.2.2 hBel)).mono ?_; rintro e w' ⟨rfl, hB2⟩)
          | (go_at_call 21; have hBel := (‹_ ∧ _ ∧ _ ∧ Below w4.heap.size w4 _›).2.2.2; with_reducible refine (own_other ⟨b3, 0, none⟩ ⟨b1, 0, none⟩ _ _ _ _ _ (fun e => by injection e with e; have := HN.out; omega) (blk_below Q4.out.2.2 hBel) (blk_below Q4.out.1 hBel)).mono ?_; rintro e w' ⟨rfl, rfl⟩))
    go_wp2
    go_roundg 0
    case measure => omega
    case rel => exact ⟨.inr (.inr (.inr ⟨rfl, rfl⟩)), (‹_ ∧ _ ∧ _ ∧ Below w4.heap.size w4 _›).2.2.2⟩
  go_wp2
  go_region_held3 (fun w' => w'.cell? ⟨w3.heap.size, 0, none⟩ = some (.iface 59 (.pointer (some ⟨b1, 0, none⟩))) ∧ w'.cell? ⟨w3.heap.size, 1, none⟩ = some (.iface 59 (.pointer (some ⟨b2, 0, none⟩))) ∧ w'.cell? ⟨w3.heap.size, 2, none⟩ = some (.iface 59 (.pointer (some ⟨b3, 0, none⟩))) ∧ Below w4.heap.size w4 w')
        (first
          | (with_reducible assumption)
          | (refine (fun hN => ⟨pw_cell_below hN C4.out.1, pw_cell_below hN C4.out.2.1, pw_cell_below hN C4.out.2.2, hN⟩) ?_; (first | (with_reducible assumption) | (with_reducible exact below_drew hBr) | exact ((‹_ ∧ _ ∧ _ ∧ Below w4.heap.size w4 _›).2.2.2).trans (hB2.mono ((‹_ ∧ _ ∧ _ ∧ Below w4.heap.size w4 _›).2.2.2).size)))
          | fail)
        (first
          | (go_at_call 15; have hBel := (‹_ ∧ _ ∧ _ ∧ Below w4.heap.size w4 _›).2.2.2; with_reducible refine (fail_is _ _ g1 b1 _ _ _ _ 0 3 _ _ _ (T4.out.1.below hBel) (by decide)).mono ?_; rintro e w' ⟨rfl, rfl⟩)
          | (go_at_call 22; have hBel := (‹_ ∧ _ ∧ _ ∧ Below w4.heap.size w4 _›).2.2.2; with_reducible refine (sfail_is _ g2 b2 _ _ 0 3 _ (T4.out.2.1.below hBel) (by decide)).mono ?_; rintro e w' ⟨rfl, rfl⟩)
          | (go_at_call 21; with_reducible refine (own_same ⟨b1, 0, none⟩ _).mono ?_; rintro e w' ⟨rfl, rfl⟩)
          | (go_at_call 21; with_reducible refine (own_same ⟨b2, 0, none⟩ _).mono ?_; rintro e w' ⟨rfl, rfl⟩))
  have mE := methE
  have hBz := (‹_ ∧ _ ∧ _ ∧ Below w4.heap.size w4 _›).2.2.2
  have hBw := W4.out.trans (hBz.mono W4.out.size)
  have kE := pw_cell_below hBw HE.out.1
  have kS := pw_cell_below hBw HE.out.2.1
  have HBW := Aside0.mk (And.intro hBw (And.intro (blk_below M4.out hBz) (tab_below HE.out.2.2 hBw)))
  clear hBw hBz
  go_wp2_with fail
  (with_reducible refine (error_end ae ⟨#[101, 110, 100]⟩ _ kS (World.block_lt_of_cell? _ _ kS)).mono ?_)
  rintro e wz ⟨rfl, rfl⟩
  go_wp2_with fail
  (with_reducible refine (error_nil _).mono ?_)
  rintro e wz ⟨rfl, rfl⟩
  go_wp2_with fail
  (with_reducible refine (errorM7 w.heap.size _ HBW.out.2.1 HBW.out.2.2).mono ?_)
  rintro e w7 ⟨rfl, hB7⟩
  have HB7 := Aside0.mk (HBW.out.1.trans (hB7.mono HBW.out.1.size))
  clear hB7
  go_wp2_with fail
  (with_reducible refine (awake w7).mono ?_)
  rintro e w8 ⟨rfl, hB8⟩
  have HB8 := Aside0.mk (HB7.out.trans (hB8.mono HB7.out.size))
  clear hB8
  go_wp2_with fail
  go_ret
  exact ⟨rfl, HB8.out⟩
end Go.Proofs.YtdgfbamhnmnliaaDoor.A
