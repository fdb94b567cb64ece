import Derived.Test.YtkdoilmfchlpdaaGrid
import Derived.Test.YtkdoilmfchlpdaaZ7
import Derived.Outline
namespace Go.Proofs.Ytkdoilmfchlpdaa.R
open Go.RowKit Go.Deep Go.Proofs.YtkdoilmfchlpdaaW.PrintWords Go.Proofs.YtkdoilmfchlpdaaW.PrintLast Go.Proofs.YtkdoilmfchlpdaaW.PrintMore Go.Proofs.Ytkdoilmfchlpdaa.A
set_option linter.unusedVariables false
theorem info31' : (Try.prog.info? 22).map (fun i => (i.zero, i.size, i.bytes)) = some (some (.slice none 0 0), 1, 24) := by kernel_rfl
theorem info5' : (Try.prog.info? 5).map (fun i => (i.zero, i.size, i.bytes)) = some (some (.int .u8 0), 1, 1) := by kernel_rfl
set_option maxHeartbeats 1000000 in
theorem blank_grid (m c : Nat) (hm : m ≤ 1024) (hc : c ≤ 1024) (w : World) :
    Calls Try.prog 65 #[.int .i64 (m : Int), .int .i64 (c : Int)] w fun e w' => ∃ b, e = .returned (.slice (some ⟨w.heap.size, 0, none⟩) m m) ∧ Grid w' 22 5 w.heap.size w.heap.size m c b (fun _ _ => 0) ∧ Below w.heap.size w w' := by
  have hmk := run_make_row' (P := Try.prog) 25 22 (.slice none 0 0) 24 Try.underlying25 info31' rfl .i64 .i64 m (by omega) (by omega)
  have hmk2 := run_make_row' (P := Try.prog) 22 5 (.int .u8 0) 1 Try.underlying22 info5' rfl .i64 .i64 c (by omega) (by omega)
  go_enter Try.func65, Try.ntmps65
  go_wp2
  have h0 := World.rowIs_made w (.slice none 0 0) m 22
  have hb0 : Below w.heap.size w (w.alloc (.cells (madeCells #[Value.slice none 0 0] m) 22)) := (Below.refl _ _).alloc (Nat.le_refl _) _
  go_loopw [11] (fun i wr => ∃ k b, k ≤ m ∧ i = .int .i64 (k : Int) ∧ Mid wr 22 5 w.heap.size m c k b ∧ Below w.heap.size w wr)
    (fun i _ => m - (intOf i).toNat)
  case atStart => exact ⟨0, fun _ => 0, Nat.zero_le _, rfl, ⟨h0.congr (fun _ _ => by simp), fun i hi => by omega, fun i j hi => by omega, fun i hi => by omega⟩, hb0⟩
  case round =>
    obtain ⟨k, b, hk, rfl, hM, hb⟩ := hrel
    clear h0 hb0
    have HM := Aside0.mk hM
    clear hM
    by_cases hlt : k < m
    · have hc1 := HM.out.hd.cell hlt
      have hf1 := HM.out.hd.frozen k
      have hsz := HM.out.hd.lt
      simp only [Nat.lt_irrefl, if_false] at hc1
      go_wp2
      go_roundw
      case rel => exact ⟨k + 1, _, by omega, by go_num, HM.out.step hlt, (hb.setCell (Nat.le_refl _) _).alloc (by simpa using hb.size) _⟩
      case measure => simp [intOf]; omega
    · go_wp2
      go_ret
      have hkm : k = m := by omega
      subst hkm
      exact ⟨b, rfl, HM.out.grid (Nat.le_refl _) (by decide), hb⟩
theorem tmul (gt : Nat) (a b : G8) (w0 w : World) (h : IsS125 w0 w gt) : Calls Try.prog 69 #[.pointer (some ⟨gt, 0, none⟩), .int .u8 (a.1 : Nat), .int .u8 (b.1 : Nat)] w fun e w' => e = .returned (.int .u8 ((a * b).1 : Nat)) ∧ Drawn0 w w' :=
  gf8_Tables_Mul.calls gt _ _ _ w h (TMul8 a.2 b.2)
theorem tinv (gt : Nat) (a : G8) (ha : a ≠ 0) (w0 w : World) (h : IsS125 w0 w gt) : Calls Try.prog 66 #[.pointer (some ⟨gt, 0, none⟩), .int .u8 (a.1 : Nat)] w fun e w' => e = .returned (.tuple #[.int .u8 ((LA.Fld.iv a).1 : Nat), .int .i64 0]) ∧ Drawn0 w w' :=
  gf8_Tables_Inv.calls gt _ _ _ w h (TInv8 a.2 (g8_ne ha))
end Go.Proofs.Ytkdoilmfchlpdaa.R
