import Derived.Test.YtidogckochpbgaaL2
import Derived.Test.YtidogckochpbgaaL1
import Derived.Outline
namespace Go.Proofs.Ytidogckochpbgaa.R
open Go.RowKit Go.Deep Go.Proofs.YtidogckochpbgaaW.PrintWords Go.Proofs.YtidogckochpbgaaW.PrintLast Go.Proofs.YtidogckochpbgaaW.PrintMore Go.Proofs.Ytidogckochpbgaa.A
set_option linter.unusedVariables false
theorem info31' : (Try.prog.info? 31).map (fun i => (i.zero, i.size, i.bytes)) = some (some (.slice none 0 0), 1, 24) := by kernel_rfl
theorem info5' : (Try.prog.info? 5).map (fun i => (i.zero, i.size, i.bytes)) = some (some (.int .u8 0), 1, 1) := by kernel_rfl
set_option maxHeartbeats 1000000 in
theorem blank_grid (m c : Nat) (hm : m ≤ 1024) (hc : c ≤ 1024) (w : World) :
    Calls Try.prog 43 #[.int .i64 (m : Int), .int .i64 (c : Int)] w fun e w' => ∃ b, e = .returned (.slice (some ⟨w.heap.size, 0, none⟩) m m) ∧ Grid w' 31 5 w.heap.size w.heap.size m c b (fun _ _ => 0) ∧ Below w.heap.size w w' := by
  have hmk := run_make_row' (P := Try.prog) 22 31 (.slice none 0 0) 24 Try.underlying22 info31' rfl .i64 .i64 m (by omega) (by omega)
  have hmk2 := run_make_row' (P := Try.prog) 31 5 (.int .u8 0) 1 Try.underlying31 info5' rfl .i64 .i64 c (by omega) (by omega)
  go_enter Try.func43, Try.ntmps43
  go_wp2
  have h0 := World.rowIs_made w (.slice none 0 0) m 31
  have hb0 : Below w.heap.size w (w.alloc (.cells (madeCells #[Value.slice none 0 0] m) 31)) := (Below.refl _ _).alloc (Nat.le_refl _) _
  go_loopw [11] (fun i wr => ∃ k b, k ≤ m ∧ i = .int .i64 (k : Int) ∧ Mid wr 31 5 w.heap.size m c k b ∧ Below w.heap.size w wr)
    (fun i _ => m - (intOf i).toNat)
  case atStart => exact ⟨0, fun _ => 0, Nat.zero_le _, rfl, ⟨h0.congr (fun _ _ => by simp), fun i hi => by omega, fun i j hi => by omega, fun i hi => by omega⟩, hb0⟩
  case round =>
    obtain ⟨k, b, hk, rfl, hM, hb⟩ := hrel
    clear h0 hb0
    have HM := Aside0.mk hM
    clear hM
    by_cases hlt : k < m
    · have hc1 := HM.out.hd.cell hlt
      have hf1 := HM.out.hd.frozen k
      have hsz := HM.out.hd.lt
      simp only [Nat.lt_irrefl, if_false] at hc1
      go_wp2
      go_roundw
      case rel => exact ⟨k + 1, _, by omega, by go_num, HM.out.step hlt, (hb.setCell (Nat.le_refl _) _).alloc (by simpa using hb.size) _⟩
      case measure => simp [intOf]; omega
    · go_wp2
      go_ret
      have hkm : k = m := by omega
      subst hkm
      exact ⟨b, rfl, HM.out.grid (Nat.le_refl _) (by decide), hb⟩
set_option maxRecDepth 100000 in
theorem copied_grid (m c : Nat) (hm0 : 1 ≤ m) (hm : m ≤ 1024) (hc : c ≤ 1024) (ad : Addr) (cap : Nat) (M : Nat → Nat → G8) (w : World) (hr : RdM w ad m c M) :
    Calls Try.prog 47 #[.slice (some ad) m cap] w fun e w' => ∃ b, e = .returned (.slice (some ⟨w.heap.size, 0, none⟩) m m) ∧ Grid w' 31 5 w.heap.size w.heap.size m c b M ∧ Below w.heap.size w w' := by
  obtain ⟨f, cp, hr⟩ := hr
  have h0 := hr 0 (by omega)
  have h00 := h0.1
  rw [Addr.add_zero'] at h00
  have hm0' : 0 < m := hm0
  have hr := Aside0.mk hr
  clear h0
  go_enter Try.func47, Try.ntmps47
  go_wp2_with (first | (go_at_call 43; refine (blank_grid _ _ (by omega) (by omega) _).mono ?_; rintro e w1 ⟨b, rfl, hG, hb⟩))
  have HG := Aside0.mk hG
  clear hG
  go_loopw [14] (fun i wr => ∃ k, k ≤ m ∧ i = .int .i64 (k : Int) ∧ Grid wr 31 5 w.heap.size w.heap.size m c b (fun i j => if i < k then M i j else 0) ∧ Below w.heap.size w wr)
    (fun i _ => m - (intOf i).toNat)
  case atStart => exact ⟨0, Nat.zero_le _, rfl, by simpa using HG.out, hb⟩
  case round =>
    obtain ⟨k, hk, rfl, hM, hbl⟩ := hrel
    clear HG hb h00
    have HM := Aside0.mk hM
    clear hM
    by_cases hlt : k < m
    · have hc1 := HM.out.hd.cell hlt
      obtain ⟨hr1, hr2, hr3⟩ := hr.out k hlt
      have hc2 := pw_cell_below hbl hr1
      have hr3 := Aside0.mk hr3
      clear hr1
      go_wp2
      go_still_tail 8, (by kernel_rfl)
      change wpList _ _ _ _ _ wr.drew
      refine wpList_copy_at rfl (.tmp 20) (.tmp 24) 31 31 rfl 5 Try.underlying31 (by kernel_rfl) rfl rfl (HM.out.row k hlt) c (by simp) (fun j => .int .u8 ((M k j).1 : Nat)) (fun _ => ⟨rfl, _, rfl, fun j hj => pw_cell_below hbl (hr3.out j hj)⟩) (by omega) (fun _ _ => rfl) ?_
      intro W' hrow hbut
      replace hbut := hbut.undrew
      have HG' := Aside0.mk (HM.out.putrow (v := M k) hlt hrow hbut)
      have hbl' := hbl.trans (hbut.below (B := w.heap.size) (HM.out.geb k hlt))
      clear hrow hbut HM hbl hc1 hc2
      go_wp2
      go_roundw
      case rel =>
        refine ⟨k + 1, by omega, by go_num, HG'.out.congr (fun i j hi hj => ?_), hbl'⟩
        by_cases e : i = k
        · subst e; simp [hj]
        · have : i < k + 1 ↔ i < k := by omega
          simp [e, this]
      case measure => simp [intOf]; omega
    · go_wp2
      go_ret
      exact ⟨b, rfl, HM.out.congr (fun i j hi hj => by rw [if_pos (by omega)]), hbl⟩
theorem tmul (gt : Nat) (a b : G8) (w0 w : World) (h : IsS76 w0 w gt) : Calls Try.prog 48 #[.pointer (some ⟨gt, 0, none⟩), .int .u8 (a.1 : Nat), .int .u8 (b.1 : Nat)] w fun e w' => e = .returned (.int .u8 ((a * b).1 : Nat)) ∧ Drawn0 w w' :=
  gf8_Tables_Mul.calls gt _ _ _ w h (TMul8 a.2 b.2)
theorem tinv (gt : Nat) (a : G8) (ha : a ≠ 0) (w0 w : World) (h : IsS76 w0 w gt) : Calls Try.prog 45 #[.pointer (some ⟨gt, 0, none⟩), .int .u8 (a.1 : Nat)] w fun e w' => e = .returned (.tuple #[.int .u8 ((LA.Fld.iv a).1 : Nat), .int .i64 0]) ∧ Drawn0 w w' :=
  gf8_Tables_Inv.calls gt _ _ _ w h (TInv8 a.2 (g8_ne ha))
end Go.Proofs.Ytidogckochpbgaa.R
