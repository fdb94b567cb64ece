import Derived.Test.YtidogckochpbgaaH1
import Derived.Test.YtidogckochpbgaaL2
import Derived.Test.YtidogckochpbgaaH12
namespace Go.Proofs.Ytidogckochpbgaa.A
open Go.RowKit Go.Deep Go.Proofs.YtidogckochpbgaaW.PrintWords Go.Proofs.YtidogckochpbgaaW.PrintLast Go.Proofs.YtidogckochpbgaaW.PrintMore Go.Proofs.Ytidogckochpbgaa.R
set_option linter.unusedVariables false
set_option linter.unusedSimpArgs false
set_option maxHeartbeats 1000000 in
theorem zeros_grid (m c : Nat) (hm : m ≤ 1024) (hc : c ≤ 1024) (w : World) :
    Calls Try.prog 70 #[.int .i64 (m : Int), .int .i64 (c : Int)] w fun e w' => ∃ b, e = .returned (.slice (some ⟨w.heap.size, 0, none⟩) m m) ∧ Grid w' 31 5 w.heap.size w.heap.size m c b (fun _ _ => 0) ∧ Below w.heap.size w w' := by
  have hmk := run_make_row' (P := Try.prog) 22 31 (.slice none 0 0) 24 Try.underlying22 info31' rfl .i64 .i64 m (by omega) (by omega)
  have hmk2 := run_make_row' (P := Try.prog) 31 5 (.int .u8 0) 1 Try.underlying31 info5' rfl .i64 .i64 c (by omega) (by omega)
  go_enter Try.func70, Try.ntmps70
  go_wp2
  have h0 := World.rowIs_made w (.slice none 0 0) m 31
  have hb0 : Below w.heap.size w (w.alloc (.cells (madeCells #[Value.slice none 0 0] m) 31)) := (Below.refl _ _).alloc (Nat.le_refl _) _
  go_loopw [6] (fun i wr => ∃ k b, k ≤ m ∧ i = .int .i64 (k : Int) ∧ Mid wr 31 5 w.heap.size m c k b ∧ Below w.heap.size w wr)
    (fun i _ => m - (intOf i).toNat)
  case atStart => exact ⟨0, fun _ => 0, Nat.zero_le _, rfl, ⟨h0.congr (fun _ _ => by simp), fun i hi => by omega, fun i j hi => by omega, fun i hi => by omega⟩, hb0⟩
  case round =>
    obtain ⟨k, b, hk, rfl, hM, hb⟩ := hrel
    clear h0 hb0
    have HM := Aside0.mk hM
    clear hM
    by_cases hlt : k < m
    · have hc1 := HM.out.hd.cell hlt
      have hf1 := HM.out.hd.frozen k
      have hsz := HM.out.hd.lt
      simp only [Nat.lt_irrefl, if_false] at hc1
      go_wp2
      go_roundw
      case rel => exact ⟨k + 1, _, by omega, by go_num, HM.out.step hlt, (hb.setCell (Nat.le_refl _) _).alloc (by simpa using hb.size) _⟩
      case measure => simp [intOf]; omega
    · go_wp2
      go_ret
      have hkm : k = m := by omega
      subst hkm
      exact ⟨b, rfl, HM.out.grid (Nat.le_refl _) (by decide), hb⟩
/-- Two matrices side by side, of the document. -/
def culletref10_beside.f (a b : List (List Int)) : Option (List (List Int)) :=
  if chk a = true ∧ chk b = true ∧ a.length = b.length ∧ byt a = true ∧ byt b = true then some (mt a.length (wid a + wid b) (beside8 (wid a) (toM a) (toM b))) else none
set_option maxHeartbeats 4000000 in
set_option maxRecDepth 100000 in
theorem beside_grid (a b : List (List Int)) (ca cb : Nat) (ad bd : Addr) (hm1 : 1 ≤ a.length) (hm : a.length ≤ 256) (hw1 : 1 ≤ wid a) (hw2 : wid a ≤ 512) (hv1 : 1 ≤ wid b) (hv2 : wid b ≤ 512) (hl : a.length = b.length) (w : World) (hR0 : RdM w ad a.length (wid a) (toM a)) (hR1 : RdM w bd b.length (wid b) (toM b)) :
    Calls Try.prog 73 #[.slice (some ad) a.length ca, .slice (some bd) b.length cb] w fun e w' => ∃ bb, e = .returned (.slice (some ⟨w.heap.size, 0, none⟩) a.length a.length) ∧ Grid w' 31 5 w.heap.size w.heap.size a.length (wid a + wid b) bb (beside8 (wid a) (toM a) (toM b)) ∧ Below w.heap.size w w' := by
  obtain ⟨fa, pa, hfa⟩ : ∃ (f : Addr) (cp : Nat), w.cell? ad = some (.slice (some f) (wid a) cp) := by
    obtain ⟨f, cp, h⟩ := hR0
    have := (h 0 (by omega)).1
    rw [Addr.add_zero'] at this
    exact ⟨_, _, this⟩
  obtain ⟨fb, pb, hfb⟩ : ∃ (f : Addr) (cp : Nat), w.cell? bd = some (.slice (some f) (wid b) cp) := by
    obtain ⟨f, cp, h⟩ := hR1
    have := (h 0 (by omega)).1
    rw [Addr.add_zero'] at this
    exact ⟨_, _, this⟩
  have HR0 := Aside0.mk hR0
  have HR1 := Aside0.mk hR1
  have HL := Aside0.mk hl
  have h01 : 0 < a.length := hm1
  have h02 : 0 < b.length := by omega
  have FA := Aside0.mk hfa
  obtain ⟨s, hs⟩ : ∃ s, s = wid a + wid b := ⟨_, rfl⟩
  have hsum : IntKind.i64.wrap ((wid a : Int) + (wid b : Int)) = (s : Int) := by rw [IntKind.wrap_i64]; omega
  have HS := Aside0.mk hs
  clear hR0 hR1 hl hs
  go_enter Try.func73, Try.ntmps73
  go_wp2_with fail
  go_still_tail 11, (by kernel_rfl)
  change wpList _ _ _ _ _ w.drew
  go_wp2_with fail
  clear hsum
  refine (zeros_grid a.length s (by omega) (by rw [HS.out]; omega) _).mono ?_
  rintro e w3 ⟨bb, rfl, hG, hbl⟩
  have HB := Aside0.mk (Below.trans (Below.drew (Below.refl w.heap.size w)) hbl)
  have HG : Aside0 (Grid w3 31 5 w.heap.size w.heap.size a.length s bb (fun _ _ => 0)) := ⟨hG⟩
  clear hG hbl hfa hfb
  go_wp2_with fail
  go_loopg [6] a.length (fun kq v6 wr => ∃ k, kq = a.length - k ∧ k ≤ a.length ∧ v6 = .int .i64 (k : Int) ∧ Grid wr 31 5 w.heap.size w.heap.size a.length s bb (fun i j => if i < k then beside8 (wid a) (toM a) (toM b) i j else 0) ∧ Below w.heap.size w wr)
  case atStart => exact ⟨0, rfl, Nat.zero_le _, rfl, HG.out.congr (fun i j _ _ => by simp), HB.out⟩
  case round =>
    obtain ⟨k, rfl, hk, rfl, hG, hB⟩ := hrel
    have HG2 := Aside0.mk hG
    have HB2 := Aside0.mk hB
    clear hG hB HG HB
    by_cases hlt : k < a.length
    · have hc1 := HG2.out.hd.cell hlt
      obtain ⟨f0, p0, hr0⟩ := HR0.out
      obtain ⟨f1, p1, hr1⟩ := HR1.out
      have hlt1 : k < b.length := by have := HL.out; omega
      obtain ⟨ha1, ha2, ha3⟩ := hr0 k hlt
      obtain ⟨hb1, hb2, hb3⟩ := hr1 k hlt1
      have ha1' := pw_cell_below HB2.out ha1
      have A3 := Aside0.mk ha3
      have B3 := Aside0.mk hb3
      have B1 := Aside0.mk hb1
      have R0 := Aside0.mk hr0
      have R1 := Aside0.mk hr1
      clear ha1 ha3 hb3 hr0 hr1 hb1
      go_wp2
      go_still_tail 8, (by kernel_rfl)
      change wpList _ _ _ _ _ wr.drew
      refine wpList_copy_at rfl (.tmp 28) (.tmp 32) 31 31 rfl 5 Try.underlying31 (by kernel_rfl) rfl rfl (HG2.out.row k hlt) (wid a) (by have := HS.out; omega) (fun j => .int .u8 ((toM a k j).1 : Nat)) (fun _ => ⟨rfl, _, rfl, fun j hj => pw_cell_below HB2.out (A3.out j hj)⟩) (by have := HS.out; omega) (fun _ _ => rfl) ?_
      intro W1 hrow hbut
      replace hbut := hbut.undrew
      have HG3 := Aside0.mk (HG2.out.putrow (v := toM a k) hlt hrow hbut)
      have HB3 := Aside0.mk (HB2.out.trans (hbut.below (B := w.heap.size) (HG2.out.geb k hlt)))
      clear hrow hbut HG2 HB2 hc1 ha1'
      have hc1 := HG3.out.hd.cell hlt
      have hb1' := pw_cell_below HB3.out B1.out
      have ha0 := pw_cell_below HB3.out FA.out
      obtain ⟨i5, hi5, -, hs5, -⟩ := info_parts info5'
      have hcut := cut_row (P := Try.prog) 31 5 .i64 Try.underlying31 hi5 hs5 (bb k) s s (wid a) (by have := HS.out; omega) (by have := HS.out; omega)
      rw [show s - wid a = wid b by have := HS.out; omega] at hcut
      go_wp2
      go_still_tail 13, (by kernel_rfl)
      change wpList _ _ _ _ _ W1.drew
      refine wpList_copy_at rfl (.tmp 42) (.tmp 46) 31 31 rfl 5 Try.underlying31 (by kernel_rfl) rfl rfl (off := wid a) (HG3.out.row k hlt) (wid b) (by omega) (fun j => .int .u8 ((toM b k j).1 : Nat)) (fun _ => ⟨rfl, _, rfl, fun j hj => pw_cell_below HB3.out (B3.out j hj)⟩) (by have := HS.out; omega) (fun _ _ => rfl) ?_
      intro W2 hrow hbut
      replace hbut := hbut.undrew
      have HG4 := Aside0.mk (HG3.out.putrow (v := toM b k) hlt hrow hbut)
      have HB4 := Aside0.mk (HB3.out.trans (hbut.below (B := w.heap.size) (HG3.out.geb k hlt)))
      clear hrow hbut HG3 HB3 hc1 hb1' hcut hi5 hs5 ha0
      go_wp2
      go_roundg (a.length - (k + 1))
      case measure => omega
      case rel =>
        refine ⟨k + 1, rfl, by omega, by go_num, HG4.out.congr (fun i j hi hj => ?_), HB4.out⟩
        have hs' := HS.out
        show (if i = k ∧ wid a ≤ j ∧ j < wid a + wid b then toM b k (j - wid a) else if i = k ∧ 0 ≤ j ∧ j < 0 + wid a then toM a k (j - 0) else if i < k then (if j < wid a then toM a i j else toM b i (j - wid a)) else 0) = if i < k + 1 then (if j < wid a then toM a i j else toM b i (j - wid a)) else 0
        by_cases e : i = k
        · subst e
          by_cases e2 : j < wid a
          · rw [if_neg (by omega), if_pos ⟨rfl, by omega, by omega⟩, if_pos (show i < i + 1 by omega), if_pos e2]
            rfl
          · rw [if_pos ⟨rfl, by omega, by omega⟩, if_pos (show i < i + 1 by omega), if_neg e2]
        · rw [if_neg (fun h => e h.1), if_neg (fun h => e h.1)]
          by_cases e3 : i < k
          · rw [if_pos e3, if_pos (show i < k + 1 by omega)]
          · rw [if_neg e3, if_neg (show ¬ i < k + 1 by omega)]
    · go_wp2
      go_ret
      have hs' := HS.out
      subst hs'
      exact ⟨bb, rfl, HG2.out.congr (fun i j hi hj => if_pos (by omega)), HB2.out⟩
end Go.Proofs.Ytidogckochpbgaa.A
