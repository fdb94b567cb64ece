/- Matrices in memory whose rows were appended: headers and rows with room behind them. -/
import Derived.Test.YtkdoilmfchlpdaaBridge

namespace Go.Proofs.Ytkdoilmfchlpdaa.R
open Go.RowKit Go.Deep Go.Proofs.YtkdoilmfchlpdaaW.PrintWords
set_option linter.unusedVariables false
set_option linter.unusedSimpArgs false
/-- Block g holds the headers of m rows of w cells (and more behind them), block b i the cells of row i. -/
structure GridC (W : World) (T E base g N m w : Nat) (b cp : Nat → Nat) (A : Nat → Nat → G8) : Prop where
  hd : ∃ J : Nat → Value, W.rowIs g T N (fun i => if i < m then .slice (some ⟨b i, 0, none⟩) w (cp i) else J i)
  le : m ≤ N
  row : ∀ i, i < m → ∃ J : Nat → Value, W.rowIs (b i) E (cp i) (fun j => if j < w then .int .u8 ((A i j).1 : Nat) else J j)
  wle : ∀ i, i < m → w ≤ cp i ∧ cp i ≤ maxLen
  inj : ∀ i j, i < m → j < m → b i = b j → i = j
  ge : base ≤ g
  geb : ∀ i, i < m → base ≤ b i
  te : T ≠ E
namespace GridC
variable {W : World} {T E base g N m w : Nat} {b cp : Nat → Nat} {A : Nat → Nat → G8}
theorem lt (h : GridC W T E base g N m w b cp A) : g < W.heap.size := by obtain ⟨J, hJ⟩ := h.hd; exact hJ.lt
theorem ltb (h : GridC W T E base g N m w b cp A) {i : Nat} (hi : i < m) : b i < W.heap.size := by obtain ⟨J, hJ⟩ := h.row i hi; exact hJ.lt
theorem hcell (h : GridC W T E base g N m w b cp A) {i : Nat} (hi : i < m) : W.cell? ⟨g, i, none⟩ = some (.slice (some ⟨b i, 0, none⟩) w (cp i)) := by
  obtain ⟨J, hJ⟩ := h.hd
  have := hJ.cell (i := i) (Nat.lt_of_lt_of_le hi h.le)
  rwa [if_pos hi] at this
theorem rcell (h : GridC W T E base g N m w b cp A) {i j : Nat} (hi : i < m) (hj : j < w) : W.cell? ⟨b i, j, none⟩ = some (.int .u8 ((A i j).1 : Nat)) := by
  obtain ⟨J, hJ⟩ := h.row i hi
  have := hJ.cell (i := j) (Nat.lt_of_lt_of_le hj (h.wle i hi).1)
  rwa [if_pos hj] at this
theorem rfrozen (h : GridC W T E base g N m w b cp A) {i : Nat} (hi : i < m) (j : Nat) : W.frozen? ⟨b i, j, none⟩ = false := by
  obtain ⟨J, hJ⟩ := h.row i hi
  exact hJ.frozen j
theorem ne (h : GridC W T E base g N m w b cp A) {i : Nat} (hi : i < m) : b i ≠ g := by
  intro e
  obtain ⟨J, c, hb, _, _⟩ := h.row i hi
  obtain ⟨J', c', hb', _, _⟩ := h.hd
  rw [e, hb'] at hb
  injection hb with hb
  injection hb with h1 h2 h3
  exact h.te h2
theorem moved {W' : World} (h : GridC W T E base g N m w b cp A) (hm : ∀ k, base ≤ k → k < W.heap.size → W'.heap[k]? = W.heap[k]?) : GridC W' T E base g N m w b cp A := by
  refine ⟨?_, h.le, fun i hi => ?_, h.wle, h.inj, h.ge, h.geb, h.te⟩
  · obtain ⟨J, hJ⟩ := h.hd
    exact ⟨J, hJ.of_block (hm _ h.ge hJ.lt)⟩
  · obtain ⟨J, hJ⟩ := h.row i hi
    exact ⟨J, hJ.of_block (hm _ (h.geb i hi) hJ.lt)⟩
theorem below {W' : World} (h : GridC W T E base g N m w b cp A) (hb : Below W.heap.size W W') : GridC W' T E base g N m w b cp A := h.moved (fun k _ hk => hb.block k hk)
theorem drawn {W' : World} (h : GridC W T E base g N m w b cp A) (hb : Drawn0 W W') : GridC W' T E base g N m w b cp A := by obtain ⟨k, rfl⟩ := hb.out; exact h.moved (fun _ _ _ => rfl)
theorem drewN (h : GridC W T E base g N m w b cp A) (n : Nat) : GridC (W.drewN n) T E base g N m w b cp A := h.moved (fun _ _ _ => rfl)
theorem drew (h : GridC W T E base g N m w b cp A) : GridC W.drew T E base g N m w b cp A := h.moved (fun _ _ _ => rfl)
theorem congr {B : Nat → Nat → G8} (h : GridC W T E base g N m w b cp A) (e : ∀ i j, i < m → j < w → A i j = B i j) : GridC W T E base g N m w b cp B := by
  refine ⟨h.hd, h.le, fun i hi => ?_, h.wle, h.inj, h.ge, h.geb, h.te⟩
  obtain ⟨J, hJ⟩ := h.row i hi
  refine ⟨J, hJ.congr (fun j hj => ?_)⟩
  by_cases e2 : j < w
  · rw [if_pos e2, if_pos e2, e i j hi e2]
  · rw [if_neg e2, if_neg e2]
/-- One cell is written. -/
theorem put (h : GridC W T E base g N m w b cp A) {i j : Nat} (hi : i < m) (hj : j < w) (v : G8) : GridC (W.setCell ⟨b i, j, none⟩ (.int .u8 (v.1 : Nat))) T E base g N m w b cp (fun a c => if a = i ∧ c = j then v else A a c) := by
  refine ⟨?_, h.le, fun a ha => ?_, h.wle, h.inj, h.ge, h.geb, h.te⟩
  · obtain ⟨J, hJ⟩ := h.hd
    exact ⟨J, hJ.setOther (Ne.symm (h.ne hi)) _⟩
  · obtain ⟨J, hJ⟩ := h.row a ha
    by_cases e : a = i
    · subst e
      refine ⟨J, (hJ.set j _).congr (fun c _ => ?_)⟩
      by_cases e2 : c = j
      · subst e2; simp [hj]
      · simp [e2]
    · refine ⟨J, (hJ.setOther (fun e' => e (h.inj a i ha hi e')) _).congr (fun c _ => ?_)⟩
      simp [e]
theorem row_ownC {W : World} {b t n c base : Nat} {f : Nat → Value} (h : W.rowIs b t c f) (hb : base ≤ b) (hnc : n ≤ c) (hn : c ≤ maxLen) : W.ownsRow base t 1 (.slice (some ⟨b, 0, none⟩) n c) n ((List.range n).map f) := by
  obtain ⟨cs, h1, h2, h3⟩ := h
  refine ⟨by simp, .inr ⟨b, c, cs, rfl, hb, h1, hnc, hn, by omega, ?_⟩⟩
  apply List.ext_getElem?
  intro i
  rw [Nat.mul_one, List.getElem?_take]
  by_cases hi : i < n
  · rw [if_pos hi, Array.getElem?_toList, h3 i (by omega), List.getElem?_map, List.getElem?_range hi]
    rfl
  · rw [if_neg hi, List.getElem?_eq_none (by simp; omega)]
/-- A matrix of the call's own, as the print tells it. -/
theorem toS (h : GridC W T E base g N m w b cp A) (hN : N ≤ maxLen) {ok : Nat → Prop} (h1 : ok g) (h2 : ∀ i, i < m → ok (b i)) :
    Kd.S (Kd.slice E (Kd.int .u8)) T W base ok (.slice (some ⟨g, 0, none⟩) m N) (mt m w A) := by
  refine ⟨whose m b, fun k hk => ?_, (List.range m).map (fun i => .slice (some ⟨b i, 0, none⟩) w (cp i)), ?_, ?_, ?_⟩
  · have : g = k := by simpa [Value.ownBlock] using hk
    exact this ▸ h1
  · rw [List.length_zipIdx, mt_len]
    obtain ⟨J, hJ⟩ := h.hd
    have := row_ownC (n := m) hJ h.ge h.le hN
    have e : (List.range m).map (fun i => if i < m then Value.slice (some ⟨b i, 0, none⟩) w (cp i) else J i) = (List.range m).map (fun i => .slice (some ⟨b i, 0, none⟩) w (cp i)) :=
      List.map_congr_left (fun i hi => if_pos (List.mem_range.1 hi))
    rw [e] at this
    exact this
  · rw [List.length_zipIdx, mt_len]; simp [Kd.tag, Kd.slice]
  · intro j p hp
    have hj : j < m := by
      have := (List.getElem?_eq_some_iff.1 hp).1
      rw [List.length_zipIdx, mt_len] at this
      exact this
    have hp' : p = (rw8 w (A j), j) := by
      rw [List.getElem?_zipIdx] at hp
      have e : (mt m w A)[j]? = some (rw8 w (A j)) := by
        unfold mt mat
        rw [List.getElem?_map, List.getElem?_range hj]
        rfl
      rw [e] at hp
      have := Option.some.inj hp
      rw [← this, Nat.zero_add]
    subst hp'
    have hz : (Kd.tag (whose m b) (Kd.slice E (Kd.int .u8))).sz = 1 := rfl
    rw [hz, Nat.mul_one, List.drop_eq_getElem_cons (by simpa using hj)]
    simp only [List.getElem_map, List.getElem_range, List.take_succ_cons, List.take_zero]
    refine ⟨_, rfl, Kd.R_of_own ?_ (fun k hk => ?_)⟩
    · rw [rw8_len, rw8_vals]
      obtain ⟨J, hJ⟩ := h.row j hj
      have := row_ownC (n := w) hJ (h.geb j hj) (h.wle j hj).1 (h.wle j hj).2
      have e : (List.range w).map (fun c => if c < w then Value.int .u8 ((A j c).1 : Nat) else J c) = (List.range w).map (fun c => Value.int .u8 ((A j c).1 : Nat)) :=
        List.map_congr_left (fun i hi => if_pos (List.mem_range.1 hi))
      rw [e] at this
      exact this
    · have : b j = k := by simpa [Value.ownBlock] using hk
      subst this
      exact ⟨⟨h2 j hj, by simp [Value.ownBlock]; exact h.ne hj⟩, whose_is h.inj hj⟩
end GridC
/-- Rows that are being appended: k of them so far, their list told by its value. -/
structure RowsC (w W : World) (T E : Nat) (v : Value) (k n : Nat) (b cp : Nat → Nat) (A : Nat → Nat → G8) : Prop where
  own : W.ownsRow w.heap.size T 1 v k ((List.range k).map fun i => .slice (some ⟨b i, 0, none⟩) n (cp i))
  row : ∀ i, i < k → ∃ J : Nat → Value, W.rowIs (b i) E (cp i) (fun j => if j < n then .int .u8 ((A i j).1 : Nat) else J j)
  wle : ∀ i, i < k → n ≤ cp i ∧ cp i ≤ maxLen
  inj : ∀ i j, i < k → j < k → b i = b j → i = j
  geb : ∀ i, i < k → w.heap.size ≤ b i
  bl : Below w.heap.size w W
namespace RowsC
variable {w W : World} {T E : Nat} {v : Value} {k n : Nat} {b cp : Nat → Nat} {A : Nat → Nat → G8}
theorem ltb (h : RowsC w W T E v k n b cp A) {i : Nat} (hi : i < k) : b i < W.heap.size := by obtain ⟨J, hJ⟩ := h.row i hi; exact hJ.lt
theorem alloc (h : RowsC w W T E v k n b cp A) (o : Obj) : RowsC w (W.alloc o) T E v k n b cp A :=
  ⟨h.own.alloc o, fun i hi => by obtain ⟨J, hJ⟩ := h.row i hi; exact ⟨J, hJ.of_block (Below.heap_alloc _ _ _ hJ.lt)⟩, h.wle, h.inj, h.geb, h.bl.alloc h.bl.size o⟩
theorem grown {W' : World} (h : RowsC w W T E v k n b cp A) (hg : W.grownBy W' none) : RowsC w W' T E v k n b cp A :=
  ⟨own_move h.own (fun g hgb => hg.block _ (by
      rcases h.own.2 with ⟨hv, _⟩ | ⟨g', cap, cur, hv, hb, hh, _⟩
      · rw [hv] at hgb; simp [Value.ownBlock] at hgb
      · rw [hv] at hgb
        have : g' = g := by simpa [Value.ownBlock] using hgb
        rw [← this]; exact blk_lt hh) (by simp)),
   fun i hi => by obtain ⟨J, hJ⟩ := h.row i hi; exact ⟨J, hJ.of_block (hg.block _ hJ.lt (by simp))⟩, h.wle, h.inj, h.geb, h.bl.grown hg h.bl.size (fun k hk => by cases hk)⟩
/-- A row more: it is in memory of its own, and its header is appended. -/
theorem step {W0 W1 W2 : World} {v1 v2 : Value} (h : RowsC w W0 T E v k n b cp A) (te : T ≠ E) (hn : 0 < n)
    (h1 : W0.grownBy W1 none) (o1 : W1.ownsRow W0.heap.size E 1 v1 n ((List.range n).map fun j => .int .u8 ((A k j).1 : Nat)))
    (h2 : (W1.alloc (.cells #[v1] T)).grownBy W2 v.ownBlock) (o2 : W2.ownsRow w.heap.size T 1 v2 (k + 1) (((List.range k).map fun i => .slice (some ⟨b i, 0, none⟩) n (cp i)) ++ [v1])) :
    ∃ g c, v1 = .slice (some ⟨g, 0, none⟩) n c ∧ RowsC w W2 T E v2 (k + 1) n (fun i => if i = k then g else b i) (fun i => if i = k then c else cp i) A := by
  rcases o1.2 with ⟨-, hz⟩ | ⟨g, c, cur, rfl, hge, hh, hnc, hcm, hsz, htk⟩
  · omega
  refine ⟨g, c, rfl, ?_⟩
  have H1 := (h.grown h1).alloc (.cells #[.slice (some ⟨g, 0, none⟩) n c] T)
  have glt : g < W1.heap.size := blk_lt hh
  have hh' : (W1.alloc (.cells #[.slice (some ⟨g, 0, none⟩) n c] T)).heap[g]? = some (.cells cur E (0, 0)) := by rw [Below.heap_alloc _ _ _ glt]; exact hh
  have glt' : g < (W1.alloc (.cells #[.slice (some ⟨g, 0, none⟩) n c] T)).heap.size := blk_lt hh'
  have hgne : some g ≠ v.ownBlock := fun e => by
    have := own_ne H1.own hh' te
    exact this e
  have hbne : ∀ i, i < k → some (b i) ≠ v.ownBlock := fun i hi e => by
    obtain ⟨J, cs, hb, _, _⟩ := H1.row i hi
    exact own_ne H1.own hb te e
  have hold : ∀ i, i < k → b i < W0.heap.size := fun i hi => h.ltb hi
  have hs : w.heap.size ≤ g := Nat.le_trans h.bl.size hge
  refine ⟨?_, fun i hi => ?_, fun i hi => ?_, fun i j hi hj e => ?_, fun i hi => ?_, ?_⟩
  · have e : (List.range (k + 1)).map (fun i => Value.slice (some ⟨if i = k then g else b i, 0, none⟩) n (if i = k then c else cp i)) = ((List.range k).map fun i => Value.slice (some ⟨b i, 0, none⟩) n (cp i)) ++ [.slice (some ⟨g, 0, none⟩) n c] := by
      rw [List.range_succ, List.map_append]
      congr 1
      · refine List.map_congr_left (fun i hi => ?_)
        have := List.mem_range.1 hi
        simp only [if_neg (show ¬ i = k by omega)]
      · simp
    rw [e]; exact o2
  · by_cases e : i = k
    · subst e
      simp only [if_true]
      refine ⟨fun j => (cur[j]?).getD (.int .u8 0), cur, by rw [h2.block _ glt' hgne]; exact hh', by omega, fun j hj => ?_⟩
      show cur[j]? = some (if j < n then Value.int .u8 ((A i j).1 : Nat) else (cur[j]?).getD (.int .u8 0))
      by_cases hjn : j < n
      · have := congrArg (fun l : List Value => l[j]?) htk
        simp only [Nat.mul_one, List.getElem?_take, if_pos hjn, List.getElem?_map, List.getElem?_range hjn, Array.getElem?_toList] at this
        rw [if_pos hjn, this]; rfl
      · rw [if_neg hjn, Array.getElem?_eq_getElem (by omega)]; rfl
    · simp only [if_neg e]
      obtain ⟨J, hJ⟩ := H1.row i (by omega)
      exact ⟨J, hJ.of_block (h2.block _ hJ.lt (hbne i (by omega)))⟩
  · by_cases e : i = k
    · simp only [if_pos e]; exact ⟨hnc, hcm⟩
    · simp only [if_neg e]; exact h.wle i (by omega)
  · by_cases e1 : i = k
    · by_cases e2 : j = k
      · omega
      · simp only [if_pos e1, if_neg e2] at e; have := hold j (by omega); omega
    · by_cases e2 : j = k
      · simp only [if_neg e1, if_pos e2] at e; have := hold i (by omega); omega
      · simp only [if_neg e1, if_neg e2] at e; exact h.inj i j (by omega) (by omega) e
  · by_cases e : i = k
    · simp only [if_pos e]; exact hs
    · simp only [if_neg e]; exact h.geb i (by omega)
  · have hz : w.heap.size ≤ (W1.alloc (.cells #[Value.slice (some ⟨g, 0, none⟩) n c] T)).heap.size := H1.bl.size
    exact H1.bl.grown h2 hz (fun q hq => own_base H1.own q hq)
/-- When all rows are there. -/
theorem grid (h : RowsC w W T E v k n b cp A) (te : T ≠ E) (hk : 0 < k) : ∃ g N, v = .slice (some ⟨g, 0, none⟩) k N ∧ N ≤ maxLen ∧ GridC W T E w.heap.size g N k n b cp A := by
  rcases h.own.2 with ⟨-, hz⟩ | ⟨g, N, cur, rfl, hge, hh, hkN, hNm, hsz, htk⟩
  · omega
  refine ⟨g, N, rfl, hNm, ⟨fun i => (cur[i]?).getD (.int .u8 0), cur, hh, by omega, fun i hi => ?_⟩, hkN, h.row, h.wle, h.inj, hge, h.geb, te⟩
  show cur[i]? = some (if i < k then Value.slice (some ⟨b i, 0, none⟩) n (cp i) else (cur[i]?).getD (.int .u8 0))
  by_cases hik : i < k
  · have := congrArg (fun l : List Value => l[i]?) htk
    simp only [Nat.mul_one, List.getElem?_take, if_pos hik, List.getElem?_map, List.getElem?_range hik, Array.getElem?_toList] at this
    rw [if_pos hik, this]; rfl
  · rw [if_neg hik, Array.getElem?_eq_getElem (by omega)]; rfl
end RowsC
end Go.Proofs.Ytkdoilmfchlpdaa.R
