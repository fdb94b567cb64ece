/- Between matrices told by their blocks (Grid, RdM) and by the print's words (Kd.S, Kd.C). -/
import Derived.Test.YtkdoilmfchlpdaaGrid
import Derived.Test.YtkdoilmfchlpdaaZ1

namespace Go.Proofs.Ytkdoilmfchlpdaa.R
open Go.RowKit Go.Deep Go.Proofs.YtkdoilmfchlpdaaW.PrintWords
set_option linter.unusedVariables false
theorem row_own {W : World} {b t n base : Nat} {f : Nat → Value} (h : W.rowIs b t n f) (hb : base ≤ b) (hn : n ≤ maxLen) : W.ownsRow base t 1 (.slice (some ⟨b, 0, none⟩) n n) n ((List.range n).map f) := by
  obtain ⟨c, h1, h2, h3⟩ := h
  refine ⟨by simp, .inr ⟨b, n, c, rfl, hb, h1, Nat.le_refl _, hn, by omega, ?_⟩⟩
  apply List.ext_getElem?
  intro i
  rw [Nat.mul_one, List.getElem?_take]
  by_cases hi : i < n
  · rw [if_pos hi, Array.getElem?_toList, h3 i hi, List.getElem?_map, List.getElem?_range hi]
    rfl
  · rw [if_neg hi, List.getElem?_eq_none (by simp; omega)]
theorem rw8_vals (c : Nat) (v : Nat → G8) : encs (Value.int .u8) (rw8 c v) = (List.range c).map fun j => Value.int .u8 ((v j).1 : Nat) := by
  unfold encs rw8 rowOf
  rw [List.map_map]
  rfl
/-- A row of the call's own, of bytes. -/
theorem row_R {W : World} {b E n base : Nat} {v : Nat → G8} {ok : Nat → Prop} (h : W.rowIs b E n (fun j => .int .u8 ((v j).1 : Nat))) (hb : base ≤ b) (hn : n ≤ maxLen) (hok : ok b) : Kd.R (Kd.int .u8) E W base ok (.slice (some ⟨b, 0, none⟩) n n) (rw8 n v) := by
  refine Kd.R_of_own ?_ (fun k hk => ?_)
  · rw [rw8_len, rw8_vals]; exact row_own h hb hn
  · have : b = k := by simpa [Value.ownBlock] using hk
    exact this ▸ hok
open Classical in
/-- Whose row a block is. -/
noncomputable def whose (m : Nat) (b : Nat → Nat) (k : Nat) : Nat := if h : ∃ i, i < m ∧ b i = k then Classical.choose h else m
theorem whose_is {m : Nat} {b : Nat → Nat} (inj : ∀ i j, i < m → j < m → b i = b j → i = j) {i : Nat} (hi : i < m) : whose m b (b i) = i := by
  unfold whose
  rw [dif_pos ⟨i, hi, rfl⟩]
  have := Classical.choose_spec (⟨i, hi, rfl⟩ : ∃ j, j < m ∧ b j = b i)
  exact inj _ _ this.1 hi this.2
/-- A matrix of the call's own, as the print tells it. -/
theorem Grid.toS {W : World} {T E base g m w : Nat} {b : Nat → Nat} {A : Nat → Nat → G8} (h : Grid W T E base g m w b A) (hm : m ≤ maxLen) (hw : w ≤ maxLen) {ok : Nat → Prop} (h1 : ok g) (h2 : ∀ i, i < m → ok (b i)) :
    Kd.S (Kd.slice E (Kd.int .u8)) T W base ok (.slice (some ⟨g, 0, none⟩) m m) (mt m w A) := by
  refine ⟨whose m b, fun k hk => ?_, (List.range m).map (fun i => .slice (some ⟨b i, 0, none⟩) w w), ?_, ?_, ?_⟩
  · have : g = k := by simpa [Value.ownBlock] using hk
    exact this ▸ h1
  · rw [List.length_zipIdx, mt_len]
    exact row_own h.hd h.ge hm
  · rw [List.length_zipIdx, mt_len]; simp [Kd.tag, Kd.slice]
  · intro j p hp
    have hj : j < m := by
      have := (List.getElem?_eq_some_iff.1 hp).1
      rw [List.length_zipIdx, mt_len] at this
      exact this
    have hp' : p = (rw8 w (A j), j) := by
      rw [List.getElem?_zipIdx] at hp
      have e : (mt m w A)[j]? = some (rw8 w (A j)) := by
        unfold mt mat
        rw [List.getElem?_map, List.getElem?_range hj]
        rfl
      rw [e] at hp
      have := Option.some.inj hp
      rw [← this, Nat.zero_add]
    subst hp'
    have hz : (Kd.tag (whose m b) (Kd.slice E (Kd.int .u8))).sz = 1 := rfl
    rw [hz, Nat.mul_one, List.drop_eq_getElem_cons (by simpa using hj)]
    simp only [List.getElem_map, List.getElem_range, List.take_succ_cons, List.take_zero]
    exact ⟨_, rfl, row_R (h.row j hj) (h.geb j hj) hw ⟨⟨h2 j hj, by simp [Value.ownBlock]; exact h.ne hj⟩, whose_is h.inj hj⟩⟩
theorem int_get {W : World} {A : Option Addr} {xs : List Int} {k : IntKind} (h : (Kd.int k).C W A xs.length xs) (hp : 0 < xs.length) : ∃ ad, A = some ad ∧ ∀ j, j < xs.length → W.cell? (ad.add j) = some (.int k (xs.getD j 0)) := by
  obtain ⟨_, _, h3⟩ := h
  obtain ⟨ad, e, hc⟩ := h3 hp
  refine ⟨ad, e, fun j hj => ?_⟩
  obtain ⟨c, hl, hK, hcell⟩ := hc j _ (List.getElem?_eq_getElem hj)
  have hK' : c = [.int k xs[j]] := hK
  subst hK'
  have := hcell 0 _ rfl
  rw [List.getD_eq_getElem?_getD, List.getElem?_eq_getElem hj]
  rw [show j * (Kd.int k).sz + 0 = j from by simp [Kd.int, Kd.scalar]] at this
  exact this
/-- A matrix that came in. -/
theorem rdm_of_C {W : World} {A : Option Addr} {E m c : Nat} {M : Nat → Nat → G8} (hm : 0 < m) (hc : 0 < c) (h : (Kd.slice E (Kd.int .u8)).C W A (mt m c M).length (mt m c M)) : ∃ ad, A = some ad ∧ RdM W ad m c M := by
  obtain ⟨_, _, h3⟩ := h
  obtain ⟨ad, e, hcell⟩ := h3 (by rw [mt_len]; exact hm)
  refine ⟨ad, e, ?_⟩
  have key : ∀ i, ∃ (f : Addr) (cp : Nat), i < m → W.cell? (ad.add i) = some (.slice (some f) c cp) ∧ c ≤ cp ∧ ∀ j, j < c → W.cell? (f.add j) = some (.int .u8 ((M i j).1 : Nat)) := by
    intro i
    by_cases hi : i < m
    · have e1 : (mt m c M)[i]? = some (rw8 c (M i)) := by
        unfold mt mat
        rw [List.getElem?_map, List.getElem?_range hi]
        rfl
      obtain ⟨cs, hl, ⟨A', cp, rfl, hle, hC⟩, hu⟩ := hcell i _ e1
      obtain ⟨f, rfl, hf⟩ := int_get hC (by rw [rw8_len]; exact hc)
      rw [rw8_len] at hle hf
      refine ⟨f, cp, fun _ => ⟨?_, hle, fun j hj => ?_⟩⟩
      · have := hu 0 _ rfl
        rw [rw8_len] at this
        rw [show i * (Kd.slice E (Kd.int .u8)).sz + 0 = i from by simp [Kd.slice]] at this
        exact this
      · rw [hf j hj]
        have := rw8_get hj (M i)
        unfold rd at this
        rw [Int.toNat_natCast] at this
        rw [this]
    · exact ⟨ad, 0, fun h => absurd h hi⟩
  exact ⟨fun i => Classical.choose (key i), fun i => Classical.choose (Classical.choose_spec (key i)), fun i hi => Classical.choose_spec (Classical.choose_spec (key i)) hi⟩
/-- The first row's header. -/
theorem first_row {W : World} {A : Option Addr} {E : Nat} {l : List (List Int)} (hm : 1 ≤ l.length) (hw : 1 ≤ (l.getD 0 []).length) (h : (Kd.slice E (Kd.int .u8)).C W A l.length l) : ∃ ad, A = some ad ∧ ∃ (f : Addr) (cp : Nat), W.cell? ad = some (.slice (some f) (l.getD 0 []).length cp) := by
  obtain ⟨_, _, h3⟩ := h
  obtain ⟨ad, e, hcell⟩ := h3 hm
  have e1 : l[0]? = some (l.getD 0 []) := by rw [List.getD_eq_getElem?_getD, List.getElem?_eq_getElem hm]; rfl
  obtain ⟨cs, hl, ⟨A', cp, rfl, hle, hC⟩, hu⟩ := hcell 0 _ e1
  obtain ⟨f, rfl, hf⟩ := int_get hC hw
  refine ⟨ad, e, f, cp, ?_⟩
  have := hu 0 _ rfl
  rwa [Nat.zero_mul, Nat.zero_add, Addr.add_zero'] at this
end Go.Proofs.Ytkdoilmfchlpdaa.R
