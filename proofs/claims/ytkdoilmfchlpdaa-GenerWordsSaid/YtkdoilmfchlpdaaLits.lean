/- Lists that are written out, as they lie in memory. -/
import Derived.Test.YtkdoilmfchlpdaaBridge

namespace Go.Proofs.Ytkdoilmfchlpdaa.R
open Go.RowKit Go.Deep Go.Proofs.YtkdoilmfchlpdaaW.PrintWords
set_option linter.unusedVariables false
set_option linter.unusedSimpArgs false
theorem lit_ints (W : World) (k : IntKind) (E : Nat) (l : List Int) (h : l.length ≤ 1000) : Kd.C (Kd.int k) (W.alloc (.cells (l.map (Value.int k)).toArray E)) (some ⟨W.heap.size, 0, none⟩) l.length l := by
  refine ⟨rfl, by omega, fun _ => ⟨_, rfl, ?_⟩⟩
  intro j p hp
  refine ⟨[.int k p], rfl, rfl, ?_⟩
  intro i u hu
  match i, hu with
  | 0, hu =>
    have hu' : Value.int k p = u := by simpa using hu
    subst hu'
    have e : (⟨W.heap.size, 0, none⟩ : Addr).add (j * (Kd.int k).sz + 0) = ⟨W.heap.size, j, none⟩ := by rw [add_plain]; simp [Kd.int, Kd.scalar]
    rw [e, blk_cell (heap_alloc_new W _) j]
    simp [hp]
theorem lit_rows {W : World} {A : Option Addr} {g E n c : Nat} {k : IntKind} {l : List Int} (hg : W.cell? ⟨g, 0, none⟩ = some (.slice A n c)) (hn : n = l.length) (hc : n ≤ c) (h : Kd.C (Kd.int k) W A l.length l) :
    Kd.C (Kd.slice E (Kd.int k)) W (some ⟨g, 0, none⟩) 1 [l] := by
  subst hn
  refine ⟨rfl, by omega, fun _ => ⟨_, rfl, ?_⟩⟩
  intro j p hp
  match j, hp with
  | 0, hp =>
    have hp' : l = p := by simpa using hp
    subst hp'
    refine ⟨[.slice A l.length c], rfl, ⟨A, c, rfl, hc, h⟩, ?_⟩
    intro i u hu
    match i, hu with
    | 0, hu =>
      have hu' : Value.slice A l.length c = u := by simpa using hu
      subst hu'
      have e : (⟨g, 0, none⟩ : Addr).add (0 * (Kd.slice E (Kd.int k)).sz + 0) = ⟨g, 0, none⟩ := by rw [add_plain]; simp
      rw [e]; exact hg
theorem lit_mat (W : World) (k : IntKind) (E T n : Nat) (l : List Int) (h : l.length ≤ 1000) (hn : n = l.length) :
    Kd.C (Kd.slice E (Kd.int k)) ((W.alloc (.cells (l.map (Value.int k)).toArray E)).alloc (.cells #[.slice (some ⟨W.heap.size, 0, none⟩) n n] T)) (some ⟨W.heap.size + 1, 0, none⟩) 1 [l] := by
  have e : (W.alloc (.cells (l.map (Value.int k)).toArray E)).heap.size = W.heap.size + 1 := by simp
  refine lit_rows (n := n) (c := n) (A := some ⟨W.heap.size, 0, none⟩) ?_ hn (Nat.le_refl _) (Kd.C_alloc (lit_ints W k E l h) _)
  rw [← e, blk_cell (heap_alloc_new _ _) 0]; rfl
end Go.Proofs.Ytkdoilmfchlpdaa.R
